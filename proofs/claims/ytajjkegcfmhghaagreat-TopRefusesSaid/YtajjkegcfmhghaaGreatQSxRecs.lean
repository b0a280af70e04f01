import Derived.Test.YtajjkegcfmhghaaGreatQSxBasA
import Derived.Test.YtajjkegcfmhghaaGreatQSxBasB
set_option linter.unusedVariables false
set_option linter.unusedSimpArgs false
namespace Go.Sx
def zAu (x:Nat):Nat:=if x=0 then 0 else Nat.log2 x+1
theorem zDf {x k:Nat} (h:x<2 ^ k):zAu x≤k:=by
 unfold zAu
 split
 ·omega
 ·rename_i h0
  have:=(Nat.log2_lt h0).2 h
  omega
theorem zGs {x k:Nat} (h:2 ^ k≤x):k<zAu x:=by
 unfold zAu
 have h0:x≠0:=by have:=Nat.two_pow_pos k;omega
 rw [if_neg h0]
 have:=(Nat.le_log2 h0).2 h
 omega
theorem zKw {x k:Nat} (h1:x<2 ^ (k+1)) (h2:2 ^ k≤x):zAu x=k+1:=by
 have:=zDf h1
 have:=zGs h2
 omega
theorem zHr {x:Nat} (k:Nat) (h:2 ^ k≤x):zAu x=k+zAu (x/2 ^ k):=by
 have hp:=Nat.two_pow_pos k
 have hq:1≤x/2 ^ k:=(Nat.le_div_iff_mul_le hp).2 (by omega)
 have h0:x/2 ^ k≠0:=by omega
 have hb:zAu (x/2 ^ k)=Nat.log2 (x/2 ^ k)+1:=by unfold zAu;rw [if_neg h0]
 have l1:=Nat.log2_self_le h0
 have l2:=Nat.lt_log2_self (n:=x/2 ^ k)
 rw [hb]
 refine (zKw (k:=k+Nat.log2 (x/2 ^ k)) ?_ ?_).trans (by omega)
 ·rw [Nat.add_assoc,Nat.pow_add]
  rw [Nat.mul_comm]
  exact (Nat.div_lt_iff_lt_mul hp).1 l2
 ·rw [Nat.pow_add,Nat.mul_comm]
  exact (Nat.le_div_iff_mul_le hp).1 l1
def zGf : Nat→Nat→List zN
 | 0,x=>[BitVec.ofNat 8 x]
 | k+1,x=>if x<128 then [BitVec.ofNat 8 x] else BitVec.ofNat 8 (x%128+128)::zGf k (x/128)
def zBt (x:Nat):List zN:=zGf 9 x
def zBe (x:Nat):Nat:=(zBt x).length
theorem zJj : ∀ (k j x:Nat),x<128 ^ (k+1)→zGf (k+j) x=zGf k x
 | 0,0,x,_=>rfl
 | 0,j+1,x,h=>by rw [Nat.zero_add];simp only [zGf];rw [if_pos (by simpa using h)]
 | k+1,j,x,h=>by
  rw [show k+1+j=(k+j)+1 by omega]
  simp only [zGf]
  by_cases hx:x<128
  ·rw [if_pos hx,if_pos hx]
  ·rw [if_neg hx,if_neg hx,zJj k j (x/128) (by rw [Nat.div_lt_iff_lt_mul (by omega)];rw [Nat.pow_succ] at h;exact h)]
theorem zEK {x:Nat} (h:x<128):zBt x=[BitVec.ofNat 8 x]:=by unfold zBt;simp only [zGf];rw [if_pos h]
theorem zFB {x:Nat} (h:¬ x<128) (hx:x<2 ^ 64):zBt x=BitVec.ofNat 8 (x%128+128)::zBt (x/128):=by
 unfold zBt
 rw [show (9:Nat)=8+1 by rfl]
 rw [show zGf (8+1) x=BitVec.ofNat 8 (x%128+128)::zGf 8 (x/128) by simp only [zGf];rw [if_neg h]]
 rw [zJj 8 1 (x/128) (by rw [Nat.div_lt_iff_lt_mul (by omega)];omega)]
theorem zPo : ∀ (k x:Nat),(zGf k x).length≤k+1
 | 0,x=>by simp [zGf]
 | k+1,x=>by
  simp only [zGf]
  split
  ·simp
  ·have:=zPo k (x/128)
   simp;omega
theorem zDH (x:Nat):zBe x≤10:=zPo 9 x
theorem zB6 (x:Nat):1≤zBe x:=by
 unfold zBe zBt
 simp only [zGf]
 split<;>simp
theorem zEF {x:Nat} (h:x<128):zBe x=1:=by unfold zBe;rw [zEK h];rfl
theorem zC8 {x:Nat} (h:¬ x<128) (hx:x<2 ^ 64):zBe x=zBe (x/128)+1:=by unfold zBe;rw [zFB h hx];simp
theorem zL5 {x:Nat} (h:x<128):zAu x≤7:=zDf (k:=7) h
theorem zae : ∀ (d x:Nat),x<2 ^ 64→x≤d→zBe x=(max 1 (zAu x)+6)/7:=by
 intro d
 induction d using Nat.strongRecOn with
 | _ d ih =>
  intro x hx hd
  by_cases h:x<128
  ·rw [zEF h]
   have:=zL5 h
   omega
  ·have h2:=zHr (x:=x) 7 (by omega)
   rw [show (2:Nat) ^ 7=128 by rfl] at h2
   have h3:1≤zAu (x/128):=zGs (k:=0) (by omega)
   rw [zC8 h hx,ih (x/128) (by omega) (x/128) (by omega) (Nat.le_refl _),h2]
   omega
theorem zVb (X:BitVec 64):(max 1 ((zAu X.toNat:Nat):Int)+7-1)/7=((zBe X.toNat:Nat):Int):=by
 rw [zae X.toNat X.toNat X.isLt (Nat.le_refl _)]
 omega
def zNG (X:BitVec 64) (m:Nat):Nat→List zN
 | 0=>List.replicate m 0#8
 | k+1=>(zNG X m k).set k ((X>>>(7*k)).setWidth 8|||128#8)
theorem zDh (X:BitVec 64) (m:Nat):∀ k,(zNG X m k).length=m
 | 0=>by simp [zNG]
 | k+1=>by simp [zNG,zDh X m k]
theorem zLb (X:BitVec 64) (m:Nat):∀ (k i:Nat),i<k→i<m→(zNG X m k)[i]? = some ((X>>>(7*i)).setWidth 8|||128#8)
 | 0,i,h,_=>by omega
 | k+1,i,h,hm=>by
  simp only [zNG]
  by_cases e:k=i
  ·subst e
   rw [List.getElem?_set_self (by rw [zDh];exact hm)]
  ·rw [List.getElem?_set_ne e]
   exact zLb X m k i (by omega) hm
theorem zXk (c:zN):(c|||128#8).toNat=c.toNat%128+128:=by
 have:∀ c:BitVec 8,(c|||128#8).toNat=c.toNat%128+128:=by decide +kernel
 exact this c
theorem zNc (c:zN):(c &&& ~~~128#8).toNat=c.toNat%128:=by
 have:∀ c:BitVec 8,(c &&& ~~~128#8).toNat=c.toNat%128:=by decide +kernel
 exact this c
theorem zHn (X:BitVec 64) (i:Nat):((X>>>(7*i)).setWidth 8).toNat=X.toNat/2 ^ (7*i)%256:=by
 rw [BitVec.toNat_setWidth,BitVec.toNat_ushiftRight,Nat.shiftRight_eq_div_pow]
theorem zLL : ∀ (n i x:Nat),zBe x=n→x<2 ^ 64→i<n→(zBt x)[i]? = some (if i+1=n then BitVec.ofNat 8 (x/128 ^ i) else BitVec.ofNat 8 (x/128 ^ i%128+128)):=by
 intro n
 induction n with
 | zero=>intro i x _ _ h;omega
 | succ n ih =>
  intro i x hn hx hi
  by_cases h:x<128
  ·have h1:=zEF h
   have:n=0:=by omega
   subst this
   have:i=0:=by omega
   subst this
   rw [zEK h]
   simp
  ·have h1:=zC8 h hx
   have hpos:=zB6 (x/128)
   rw [zFB h hx]
   cases i with
   | zero =>
    rw [if_neg (by omega)]
    simp
   | succ i =>
    rw [List.getElem?_cons_succ,ih i (x/128) (by omega) (by omega) (by omega)]
    rw [Nat.div_div_eq_div_mul,show 128*128 ^ i=128 ^ (i+1) by rw [Nat.pow_succ,Nat.mul_comm]]
    by_cases e:i+1=n
    ·rw [if_pos e,if_pos (by omega)]
    ·rw [if_neg e,if_neg (by omega)]
theorem zdF (i:Nat):(2:Nat) ^ (7*i)=128 ^ i:=by rw [Nat.pow_mul]
theorem zOh (n x:Nat) (hn:zBe x=n+1) (hx:x<2 ^ 64):x/128 ^ n<128:=by
 induction n generalizing x with
 | zero =>
  by_cases h:x<128
  ·simpa using h
  ·have:=zC8 h hx;have:=zB6 (x/128);omega
 | succ n ih =>
  by_cases h:x<128
  ·have:=zEF h;omega
  ·have:=zC8 h hx
   have:=ih (x/128) (by omega) (by omega)
   rwa [Nat.div_div_eq_div_mul,show 128*128 ^ n=128 ^ (n+1) by rw [Nat.pow_succ,Nat.mul_comm]] at this
theorem zcs (X:BitVec 64) (m:Nat) (hm:zBe X.toNat=m):(zNG X m m).set (m-1) ((zNG X m m).getD (m-1) 0 &&& ~~~128#8)=zBt X.toNat:=by
 have hpos:=zB6 X.toNat
 have hlen:(zBt X.toNat).length=m:=hm
 apply List.ext_getElem?
 intro i
 by_cases hi:i<m
 ·rw [zLL m i X.toNat hm X.isLt hi]
  by_cases e:m-1=i
  ·subst e
   rw [List.getElem?_set_self (by rw [zDh];exact hi),if_pos (by omega)]
   have hg:=zLb X m m (m-1) (by omega) hi
   have ht:=zOh (m-1) X.toNat (by omega) X.isLt
   congr 1
   apply BitVec.eq_of_toNat_eq
   rw [zNc,List.getD_eq_getElem?_getD,hg,Option.getD_some,zXk,zHn,zdF,BitVec.toNat_ofNat]
   generalize X.toNat/128 ^ (m-1)=q at *
   omega
  ·rw [List.getElem?_set_ne e,zLb X m m i hi hi,if_neg (by omega)]
   congr 1
   apply BitVec.eq_of_toNat_eq
   rw [zXk,zHn,zdF,BitVec.toNat_ofNat]
   omega
 ·rw [List.getElem?_eq_none (by rw [List.length_set,zDh];omega),List.getElem?_eq_none (by omega)]
theorem zZT : ∀ (n x:Nat),1≤n→x<2 ^ 64→x<128 ^ n→zBe x≤n:=by
 intro n
 induction n with
 | zero=>intro x h;omega
 | succ n ih =>
  intro x h1 hx h
  by_cases hs:x<128
  ·rw [zEF hs];omega
  ·have h2:=zC8 hs hx
   cases n with
   | zero=>simp at h;omega
   | succ n =>
    have:=ih (x/128) (by omega) (by omega) (by rw [Nat.div_lt_iff_lt_mul (by omega)];rw [Nat.pow_succ] at h;exact h)
    omega
def zFG : List zN→Nat
 | []=>0
 | c::l=>c.toNat%128+128*zFG l
def zBA : Nat→List zN→Nat
 | 0,_=>0
 | _,[]=>0
 | k+1,c::l=>if 128≤c.toNat then zBA k l+1 else 0
def zCi (b:List zN):BitVec 64×Nat×Nat :=
 if b.length=0 then (0#64,0,5) else if zBA 10 b=10 then (0#64,0,8) else if zBA 10 b=b.length then (0#64,0,6)
 else if zBA 10 b=9∧1<(b.getD (zBA 10 b) 0).toNat then (0#64,0,8)
 else if (b.getD (zBA 10 b) 0).toNat=0∧0<zBA 10 b then (0#64,0,7)
 else (BitVec.ofNat 64 (zFG (b.take (zBA 10 b+1))),zBA 10 b+1,0)
theorem zGx : ∀ (k:Nat) (b:List zN),zBA k b≤k∧zBA k b≤b.length
 | 0,b=>by simp [zBA]
 | k+1,[]=>by simp [zBA]
 | k+1,c::l=>by
  have:=zGx k l
  simp only [zBA]
  split
  ·simp;omega
  ·simp
theorem zFp : ∀ (k i:Nat) (b:List zN),i≤zBA k b→i<k→i<b.length→128≤(b.getD i 0).toNat→i+1≤zBA k b
 | 0,i,b,_,h,_,_=>by omega
 | k+1,i,[],_,_,h,_=>by simp at h
 | k+1,0,c::l,_,_,_,h=>by
  simp only [zBA]
  rw [if_pos (by simpa using h)]
  omega
 | k+1,i+1,c::l,h1,h2,h3,h4=>by
  simp only [zBA] at *
  split at h1
  ·rename_i hc
   rw [if_pos hc]
   have:=zFp k i l (by omega) (by omega) (by simpa using h3) (by simpa using h4)
   omega
  ·omega
theorem zFq : ∀ (k i:Nat) (b:List zN),i≤zBA k b→i<b.length→(b.getD i 0).toNat<128→zBA k b=i
 | 0,i,b,h,_,_=>by simp only [zBA] at *;omega
 | k+1,i,[],_,h,_=>by simp at h
 | k+1,0,c::l,_,_,h=>by
  simp only [zBA]
  rw [if_neg (by have:c.toNat<128:=(by simpa using h);omega)]
 | k+1,i+1,c::l,h1,h3,h4=>by
  simp only [zBA] at *
  split at h1
  ·rename_i hc
   rw [if_pos hc,zFq k i l (by omega) (by simpa using h3) (by simpa using h4)]
  ·omega
theorem zK3 : ∀ (b:List zN),zFG b<128 ^ b.length
 | []=>by simp [zFG]
 | c::l=>by
  have:=zK3 l
  simp only [zFG,List.length_cons,Nat.pow_succ]
  omega
theorem zIl : ∀ (b c:List zN),zFG (b++c)=zFG b+128 ^ b.length*zFG c
 | [],c=>by simp [zFG]
 | x::l,c=>by
  simp only [zFG,List.cons_append,zIl l c,List.length_cons,Nat.pow_succ]
  rw [Nat.mul_add,Nat.mul_comm (128 ^ l.length) 128,Nat.mul_assoc]
  omega
theorem zMB (b:List zN) (i:Nat) (h:i<b.length):zFG (b.take (i+1))=zFG (b.take i)+128 ^ i*((b.getD i 0).toNat%128):=by
 rw [List.take_add_one,zIl]
 have:b[i]?.toList=[b.getD i 0]:=by simp [h,List.getD_eq_getElem?_getD]
 rw [this,List.length_take,Nat.min_eq_left (by omega)]
 simp [zFG]
theorem zH8 (b : List zN) (i : Nat) (h : i < b.length) (h9 : i ≤ 9) :
   BitVec.ofNat 64 (zFG (b.take i))|||((b.getD i 0 &&& ~~~128#8).setWidth 64)<<<(7*i)=BitVec.ofNat 64 (zFG (b.take (i+1))):=by
 have hl:=zK3 (b.take i)
 rw [List.length_take,Nat.min_eq_left (by omega)] at hl
 have hp:128 ^ i≤128 ^ 9:=Nat.pow_le_pow_right (by omega) h9
 have hp2:(128:Nat) ^ 9<2 ^ 64:=by decide
 have hc:(b.getD i 0).toNat%128<128:=Nat.mod_lt _ (by omega)
 rw [zMB b i h]
 apply BitVec.eq_of_toNat_eq
 rw [BitVec.toNat_or,BitVec.toNat_shiftLeft,BitVec.toNat_setWidth,zNc,BitVec.toNat_ofNat,BitVec.toNat_ofNat]
 rw [Nat.mod_eq_of_lt (by omega:(b.getD i 0).toNat%128<2 ^ 64),Nat.mod_eq_of_lt (by omega:zFG (b.take i)<2 ^ 64)]
 rw [Nat.or_comm,← zdF] at *
 have e:2 ^ (7*i)*((b.getD i 0).toNat%128)+zFG (b.take i)=((b.getD i 0).toNat%128)<<<(7*i)|||zFG (b.take i):=by
   rw [← Nat.shiftLeft_add_eq_or_of_lt hl,Nat.shiftLeft_eq,Nat.mul_comm]
 rw [Nat.add_comm,e,Nat.or_mod_two_pow,Nat.mod_eq_of_lt (by omega:zFG (b.take i)<2 ^ 64)]
theorem zbd (c:zN) (i:Nat) (h9:i≤9):((((c &&& ~~~128#8).setWidth 64)<<<(7*i))>>>(7*i)=(c &&& ~~~128#8).setWidth 64)↔¬ (i=9∧1<c.toNat%128):=by
 have hc:c.toNat%128<128:=Nat.mod_lt _ (by omega)
 rw [← BitVec.toNat_inj]
 rw [BitVec.toNat_ushiftRight,BitVec.toNat_shiftLeft,BitVec.toNat_setWidth,zNc,Nat.shiftLeft_eq,Nat.shiftRight_eq_div_pow,Nat.mod_eq_of_lt (by omega:c.toNat%128<2 ^ 64)]
 generalize c.toNat%128=q at *
 by_cases e:i=9
 · subst e
   rw [show (7*9)=63 by rfl]
   omega
 · have h1 : q * 2 ^ (7 * i) < 2 ^ 64 := by
     have:2 ^ (7*i)≤2 ^ (7*8):=Nat.pow_le_pow_right (by omega) (by omega)
     rw [show 7*8=56 by rfl] at this
     have:q*2 ^ (7*i)≤127*2 ^ 56:=Nat.mul_le_mul (by omega) this
     omega
   rw [Nat.mod_eq_of_lt h1,Nat.mul_div_cancel _ (Nat.two_pow_pos _)]
   simp [e]
theorem zCd {b:List zN} (h:b.length=0):zCi b=(0#64,0,5):=by unfold zCi;rw [if_pos h]
theorem zCC {b:List zN} {i:Nat} (h1:i≤zBA 10 b) (hi:i<b.length) (h9:i≤9) (hc:(b.getD i 0).toNat<128) (ho:¬ ((((b.getD i 0 &&& ~~~128#8).setWidth 64)<<<(7*i))>>>(7*i)=(b.getD i 0 &&& ~~~128#8).setWidth 64)):zCi b=(0#64,0,8):=by
 rw [zbd _ _ h9] at ho
 have hn:=zFq 10 i b h1 hi hc
 unfold zCi
 rw [if_neg (by omega),hn,if_neg (by omega),if_neg (by omega),if_pos (by omega)]
theorem zCD {b:List zN} {i:Nat} (h1:i≤zBA 10 b) (hi:i<b.length) (h9:i≤9) (hi0:0<i) (h0:(b.getD i 0).toNat=0):zCi b=(0#64,0,7):=by
 have hn:=zFq 10 i b h1 hi (by omega)
 unfold zCi
 rw [if_neg (by omega),hn,if_neg (by omega),if_neg (by omega),if_neg (by omega),if_pos (by omega)]
theorem zC1 {b:List zN} {i:Nat} (h1:i≤zBA 10 b) (hi:i<b.length) (h9:i≤9) (hc:(b.getD i 0).toNat<128) (hov:(((b.getD i 0 &&& ~~~128#8).setWidth 64)<<<(7*i))>>>(7*i)=(b.getD i 0 &&& ~~~128#8).setWidth 64) (h0:¬ ((b.getD i 0).toNat=0∧0<i)):zCi b=(BitVec.ofNat 64 (zFG (b.take (i+1))),i+1,0):=by
 rw [zbd _ _ h9] at hov
 have hn:=zFq 10 i b h1 hi hc
 unfold zCi
 rw [if_neg (by omega),hn,if_neg (by omega),if_neg (by omega),if_neg (by omega),if_neg (by omega)]
theorem zCE {b:List zN} (h1:10≤zBA 10 b):zCi b=(0#64,0,8):=by
 have:=zGx 10 b
 unfold zCi
 rw [if_neg (by omega),if_pos (by omega)]
theorem zBU {b:List zN} (h0:0<b.length) (h1:b.length≤zBA 10 b) (hl:b.length<10):zCi b=(0#64,0,6):=by
 have:=zGx 10 b
 unfold zCi
 rw [if_neg (by omega),if_neg (by omega),if_pos (by omega)]
theorem zT4 : ∀ (n k x:Nat) (r:List zN),zBe x=n+1→x<2 ^ 64→n≤k→(n<k∨r=[])→zBA k (zBt x++r)=n:=by
 intro n
 induction n with
 | zero =>
  intro k x r hn hx hk hr
  have h:x<128:=by
   apply Classical.byContradiction
   intro h
   have:=zC8 h hx;have:=zB6 (x/128);omega
  rw [zEK h]
  cases k with
  | zero=>rfl
  | succ k =>
   simp only [List.singleton_append,zBA]
   rw [if_neg]
   rw [BitVec.toNat_ofNat]
   omega
 | succ n ih =>
  intro k x r hn hx hk hr
  have h:¬ x<128:=by intro h;have:=zEF h;omega
  have h1:=zC8 h hx
  rw [zFB h hx]
  cases k with
  | zero=>omega
  | succ k =>
   simp only [List.cons_append,zBA]
   rw [if_pos (by rw [BitVec.toNat_ofNat];omega),ih k (x/128) r (by omega) (by omega) (by omega) (hr.imp (by omega) id)]
theorem zUv : ∀ (n x:Nat),zBe x=n→x<2 ^ 64→zFG (zBt x)=x:=by
 intro n
 induction n with
 | zero=>intro x hn;have:=zB6 x;omega
 | succ n ih =>
  intro x hn hx
  by_cases h:x<128
  ·rw [zEK h]
   simp only [zFG,BitVec.toNat_ofNat]
   omega
  ·have h1:=zC8 h hx
   rw [zFB h hx]
   simp only [zFG,BitVec.toNat_ofNat]
   rw [ih (x/128) (by omega) (by omega)]
   omega
theorem zVi (X:BitVec 64) (r:List zN):zCi (zBt X.toNat++r)=(X,zBe X.toNat,0):=by
 have hx:=X.isLt
 have hp:=zB6 X.toNat
 have hle:=zDH X.toNat
 have hl:(zBt X.toNat).length=zBe X.toNat:=rfl
 have hn:=zT4 (zBe X.toNat-1) 10 X.toNat r (by omega) hx (by omega) (by omega)
 have ht:=zOh (zBe X.toNat-1) X.toNat (by omega) hx
 have hg:=zLL (zBe X.toNat) (zBe X.toNat-1) X.toNat rfl hx (by omega)
 rw [if_pos (by omega)] at hg
 have hd:(zBt X.toNat++r).getD (zBe X.toNat-1) 0=BitVec.ofNat 8 (X.toNat/128 ^ (zBe X.toNat-1)):=by
  rw [List.getD_eq_getElem?_getD,List.getElem?_append_left (by omega),hg]
  rfl
 have hdn:((zBt X.toNat++r).getD (zBe X.toNat-1) 0).toNat=X.toNat/128 ^ (zBe X.toNat-1):=by
  rw [hd,BitVec.toNat_ofNat]
  generalize X.toNat/128 ^ (zBe X.toNat-1)=q at *
  omega
 have h9:zBe X.toNat-1=9→¬ 1<X.toNat/128 ^ (zBe X.toNat-1):=by
  intro e
  rw [e,show (128:Nat) ^ 9=9223372036854775808 by rfl]
  omega
 have h0:0<zBe X.toNat-1→¬ X.toNat/128 ^ (zBe X.toNat-1)=0:=by
  intro h0 e
  have:=Nat.div_eq_zero_iff.1 e
  rcases this with h | h
  ·have:=Nat.pos_of_ne_zero (n:=128 ^ (zBe X.toNat-1)) (by intro h;have:=Nat.pow_eq_zero.1 h;omega);omega
  ·have:=zZT (zBe X.toNat-1) X.toNat (by omega) hx h
   omega
 unfold zCi
 have hla:(zBt X.toNat++r).length=zBe X.toNat+r.length:=by rw [List.length_append,hl]
 rw [if_neg (by omega),hn,if_neg (by omega),if_neg (by omega),hdn,if_neg (λh=>h9 h.1 h.2),if_neg (λh=>h0 h.2 h.1),show zBe X.toNat-1+1=zBe X.toNat by omega]
 rw [← hl,List.take_left',zUv _ _ rfl hx]
 ·simp
 ·rfl
theorem zRx (X:BitVec 64) (i:Nat) (h1:1≤i) (h2:i<zBe X.toNat):zCi ((zBt X.toNat).take i)=(0#64,0,6):=by
 have hle:=zDH X.toNat
 have hl:(zBt X.toNat).length=zBe X.toNat:=rfl
 refine zBU (by simp;omega) ?_ (by simp;omega)
 have:∀ j,j≤i→j≤zBA 10 ((zBt X.toNat).take i):=by
  intro j
  induction j with
  | zero=>intro _;omega
  | succ j ih =>
   intro hj
   refine zFp 10 j _ (ih (by omega)) (by omega) (by simp;omega) ?_
   have hg:=zLL (zBe X.toNat) j X.toNat rfl X.isLt (by omega)
   rw [if_neg (by omega)] at hg
   rw [List.getD_eq_getElem?_getD,List.getElem?_take_of_lt (by omega),hg,Option.getD_some,BitVec.toNat_ofNat]
   omega
 have:=this i (Nat.le_refl _)
 simp;omega
theorem zUo : ∀ (n:Nat) (b:List zN),n<b.length→(∀ j,j<n→128≤(b.getD j 0).toNat)→(b.getD n 0).toNat<128→¬ ((b.getD n 0).toNat=0∧0<n)→zFG (b.take (n+1))<2 ^ 64→zBt (zFG (b.take (n+1)))=b.take (n+1)∧((b.getD n 0).toNat≠0→zFG (b.take (n+1))≠0):=by
 intro n
 induction n with
 | zero =>
  intro b hb _ hc _ _
  cases b with
  | nil=>simp at hb
  | cons c l =>
   have hc':c.toNat<128:=by simpa using hc
   simp only [Nat.zero_add,List.take_succ_cons,List.take_zero,zFG,Nat.mul_zero,Nat.add_zero]
   rw [Nat.mod_eq_of_lt hc',zEK hc']
   simp
 | succ n ih =>
  intro b hb hj hc h0 hv
  cases b with
  | nil=>simp at hb
  | cons c l =>
   have hc0:128≤c.toNat:=by simpa using hj 0 (by omega)
   simp only [List.take_succ_cons,zFG] at hv ⊢
   simp only [List.getD_cons_succ] at hc h0
   have:=ih l (by simpa using hb) (λj h=>by simpa using hj (j+1) (by omega)) hc (by omega) (by omega)
   have hnz:=this.2 (by omega)
   refine ⟨?_,λ_=>by omega⟩
   rw [zFB (by omega) hv]
   congr 1
   ·apply BitVec.eq_of_toNat_eq
    have:=c.isLt
    rw [BitVec.toNat_ofNat]
    omega
   ·rw [show (c.toNat%128+128*zFG (l.take (n+1)))/128=zFG (l.take (n+1)) by omega]
    exact this.1
theorem zMW : ∀ (k:Nat) (b:List zN) (j:Nat),j<zBA k b→128≤(b.getD j 0).toNat
 | 0,b,j,h=>by simp [zBA] at h
 | k+1,[],j,h=>by simp [zBA] at h
 | k+1,c::l,j,h=>by
  simp only [zBA] at h
  split at h
  ·cases j with
   | zero=>simpa
   | succ j=>simpa using zMW k l j (by omega)
  ·omega
theorem zJ0 : ∀ (k:Nat) (b:List zN),zBA k b<k→zBA k b<b.length→(b.getD (zBA k b) 0).toNat<128
 | 0,b,h,_=>by omega
 | k+1,[],_,h=>by simp at h
 | k+1,c::l,h1,h2=>by
  simp only [zBA] at *
  split
  ·rename_i hc
   rw [if_pos hc] at h1 h2
   simpa using zJ0 k l (by omega) (by simpa using h2)
  ·simp;omega
theorem zLQ {b:List zN} {z:BitVec 64} {k:Nat} (h:zCi b=(z,k,0)):1≤k∧k≤b.length∧zBt z.toNat=b.take k:=by
 have hle:=zGx 10 b
 unfold zCi at h
 split at h
 ·simp at h
 split at h
 ·simp at h
 split at h
 ·simp at h
 split at h
 ·simp at h
 split at h
 ·simp at h
 rename_i h1 h2 h3 h4 h5
 simp only [Prod.mk.injEq] at h
 obtain ⟨rfl,rfl,_⟩:=h
 have hn:=zJ0 10 b (by omega) (by omega)
 have hv:zFG (b.take (zBA 10 b+1))<2 ^ 64:=by
  by_cases e:zBA 10 b=9
  ·rw [zMB b _ (by omega)]
   have:=zK3 (b.take (zBA 10 b))
   rw [List.length_take,Nat.min_eq_left (by omega)] at this
   rw [e] at this hn h4 ⊢
   rw [show (128:Nat) ^ 9=9223372036854775808 by rfl] at *
   omega
  ·have:=zK3 (b.take (zBA 10 b+1))
   rw [List.length_take,Nat.min_eq_left (by omega)] at this
   have:(128:Nat) ^ (zBA 10 b+1)≤128 ^ 9:=Nat.pow_le_pow_right (by omega) (by omega)
   rw [show (128:Nat) ^ 9=9223372036854775808 by rfl] at this
   omega
 refine ⟨by omega,by omega,?_⟩
 rw [BitVec.toNat_ofNat,Nat.mod_eq_of_lt hv]
 exact (zUo (zBA 10 b) b (by omega) (λj hj=>zMW 10 b j hj) hn h5 hv).1
def zZ1 : ByteArray:=(ByteArray.mk (List.toArray (List.append (List.append [0,1,2,2,3,3,3,3,4,4,4,4,4,4,4,4,5,5,5,5,5,5,5,5,5,5,5,5,5,5,5,5,6,6,6,6,6,6,6,6,6,6,6,6,6,6,6,6,6,6,6,6,6,6,6,6,6,6,6,6,6,6,6,6] [7,7,7,7,7,7,7,7,7,7,7,7,7,7,7,7,7,7,7,7,7,7,7,7,7,7,7,7,7,7,7,7,7,7,7,7,7,7,7,7,7,7,7,7,7,7,7,7,7,7,7,7,7,7,7,7,7,7,7,7,7,7,7,7]) (List.append [8,8,8,8,8,8,8,8,8,8,8,8,8,8,8,8,8,8,8,8,8,8,8,8,8,8,8,8,8,8,8,8,8,8,8,8,8,8,8,8,8,8,8,8,8,8,8,8,8,8,8,8,8,8,8,8,8,8,8,8,8,8,8,8] [8,8,8,8,8,8,8,8,8,8,8,8,8,8,8,8,8,8,8,8,8,8,8,8,8,8,8,8,8,8,8,8,8,8,8,8,8,8,8,8,8,8,8,8,8,8,8,8,8,8,8,8,8,8,8,8,8,8,8,8,8,8,8,8]))))
theorem zDx : ∀ Y:BitVec 8,zZ1[Y.toNat]? = some (UInt8.ofBitVec (BitVec.ofNat 8 (zAu Y.toNat))):=by decide +kernel
theorem zYX (Y:BitVec 64) (k:Nat) (h:2 ^ k≤Y.toNat):zAu Y.toNat=k+zAu (Y>>>k).toNat:=by
 rw [BitVec.toNat_ushiftRight,Nat.shiftRight_eq_div_pow]
 exact zHr k h
theorem zX1 (Y:BitVec 64) (h:Y.toNat<256):(BitVec.ofNat 8 (zAu (Y.setWidth 8).toNat)).toNat=zAu Y.toNat:=by
 rw [BitVec.toNat_setWidth,Nat.mod_eq_of_lt (by omega),BitVec.toNat_ofNat]
 have:=zDf (k:=8) h
 omega
theorem zER (Y:BitVec 64) (k:Nat):(Y>>>k).toNat=Y.toNat/2 ^ k:=by rw [BitVec.toNat_ushiftRight,Nat.shiftRight_eq_div_pow]
def zFE (x:Int):BitVec 64:=if 0≤x then BitVec.ofInt 64 (2*x) else BitVec.ofInt 64 (-2*x-1)
def zNk (X:BitVec 64):Int:=if X.toNat%2=0 then ((X.toNat/2:Nat):Int) else -((X.toNat/2:Nat):Int)-1
theorem zQR (p:Int):BitVec.ofInt 64 (IntKind.i64.wrap p)=BitVec.ofInt 64 p:=by
 rw [IntKind.wrap_i64]
 apply BitVec.eq_of_toNat_eq
 simp only [BitVec.toNat_ofInt]
 rw [show ((2 ^ 64:Nat):Int)=18446744073709551616 by rfl]
 omega
theorem zb1 (p:Int) (h : -9223372036854775808≤p∧p≤9223372036854775807):BitVec.ofInt 64 (IntKind.i64.wrap (p*2 ^ (min 1 64)))^^^BitVec.ofInt 64 (p.fdiv (2 ^ (min 63 64)))=zFE p:=by
 rw [zQR]
 unfold zFE
 rw [show (2:Int) ^ (min 1 64)=2 by decide,show (2:Int) ^ (min 63 64)=9223372036854775808 by decide,Int.fdiv_eq_ediv_of_nonneg _ (by omega)]
 split
 ·rw [show p/9223372036854775808=0 by omega,Int.mul_comm]
  simp
 ·rw [show p/9223372036854775808 = -1 by omega]
  rw [show BitVec.ofInt 64 (-1)=BitVec.allOnes 64 by decide,BitVec.xor_allOnes]
  apply BitVec.eq_of_toNat_eq
  simp only [BitVec.toNat_not,BitVec.toNat_ofInt]
  omega
theorem zbt (X:BitVec 64):(X&&&1#64).toInt=((X.toNat%2:Nat):Int):=by
 rw [BitVec.toInt_eq_toNat_cond,BitVec.toNat_and]
 simp [Nat.and_one_is_mod]
 omega
theorem zcX (X:BitVec 64):(BitVec.ofInt 64 (X>>>1).toInt^^^BitVec.ofInt 64 (-(X&&&1#64).toInt)).toInt=zNk X:=by
 rw [zbt,BitVec.ofInt_toInt]
 have hx:=X.isLt
 unfold zNk
 split
 ·rename_i h
  rw [h]
  simp only [Int.natCast_zero,Int.neg_zero]
  rw [show BitVec.ofInt 64 0=0#64 by decide,BitVec.xor_zero,BitVec.toInt_eq_toNat_cond,zER]
  rw [Nat.pow_one]
  split<;>omega
 ·rename_i h
  rw [show X.toNat%2=1 by omega]
  rw [show BitVec.ofInt 64 (-((1:Nat):Int))=BitVec.allOnes 64 by decide,BitVec.xor_allOnes,BitVec.toInt_eq_toNat_cond,BitVec.toNat_not,zER]
  rw [Nat.pow_one]
  split<;>omega
theorem zE4 (X:BitVec 64) : -9223372036854775808≤zNk X∧zNk X≤9223372036854775807:=by
 have hx:=X.isLt
 unfold zNk
 split<;>omega
theorem zaS (p:Int) (h : -9223372036854775808≤p∧p≤9223372036854775807):zNk (zFE p)=p:=by
 unfold zFE
 split
 ·unfold zNk
  rw [BitVec.toNat_ofInt]
  split<;>omega
 ·unfold zNk
  rw [BitVec.toNat_ofInt]
  split<;>omega
theorem zYm (X:BitVec 64):zFE (zNk X)=X:=by
 have hx:=X.isLt
 unfold zNk
 split
 ·unfold zFE
  rw [if_pos (by omega)]
  apply BitVec.eq_of_toNat_eq
  rw [BitVec.toNat_ofInt]
  omega
 ·unfold zFE
  rw [if_neg (by omega)]
  apply BitVec.eq_of_toNat_eq
  rw [BitVec.toNat_ofInt]
  omega
theorem zF6 {b:List zN} (h:(zCi b).2.2=0):1≤(zCi b).2.1∧(zCi b).2.1≤b.length∧zBt (zCi b).1.toNat=b.take (zCi b).2.1 :=
 zLQ (z:=(zCi b).1) (k:=(zCi b).2.1) (by rw [← h])
structure Rs where
 p:Nat
 e:Nat
def zH (bs:List zN) (R:Rs):zN×Rs:=if R.e≠0 then (0#8,R) else if bs.length≤R.p then (0#8,⟨R.p,6⟩) else (bs.getD R.p 0,⟨R.p+1,0⟩)
def zJZ (b:List zN) (X:BitVec 64):Nat:=if (zCi b).2.2=0∧X.toNat<(zCi b).1.toNat then 3 else (zCi b).2.2
def zL (bs:List zN) (X:BitVec 64) (R:Rs):BitVec 64×Rs :=
 if R.e≠0 then (0#64,R) else if bs.length≤R.p then (0#64,⟨R.p,6⟩) else if zJZ (bs.drop R.p) X≠0 then (0#64,⟨R.p,zJZ (bs.drop R.p) X⟩) else ((zCi (bs.drop R.p)).1,⟨R.p+(zCi (bs.drop R.p)).2.1,0⟩)
def zAA (bs:List zN) (R:Rs):Int×Rs:=(zNk (zL bs 18446744073709551615#64 R).1,(zL bs 18446744073709551615#64 R).2)
def zBh (e:Nat) (R:Rs):Rs:=if R.e=0 then ⟨R.p,e⟩ else R
def zHZ (bs:List zN) (R:Rs):Nat:=if R.e≠0∨bs.length≤R.p then R.e else 8
def za3 (bs:List zN) (R:Rs):Rs:=(zAA bs (zAA bs (zAA bs R).2).2).2
theorem zKV {b:List zN} {X:BitVec 64} (h:zJZ b X=0):(zCi b).2.2=0∧¬ X.toNat<(zCi b).1.toNat:=by
 unfold zJZ at h
 split at h
 ·cases h
 ·rename_i h'
  exact ⟨h,λh2=>h' ⟨h,h2⟩⟩
theorem zRY {b:List zN} {X:BitVec 64} (h:zJZ b X=0):1≤(zCi b).2.1∧(zCi b).2.1≤b.length:=by
 have:=zF6 (zKV h).1
 exact ⟨this.1,this.2.1⟩
theorem zVT (b:List zN):(zCi b).2.1≤10:=by
 have:=zGx 10 b
 unfold zCi
 repeat' split
 all_goals simp
 omega
theorem zCY {bs:List zN} {X:BitVec 64} {R:Rs} (h:R.e≠0):zL bs X R=(0#64,R):=by unfold zL;rw [if_pos h]
theorem zCK {bs:List zN} {X:BitVec 64} {R:Rs} (h:R.e=0) (h1:bs.length≤R.p):zL bs X R=(0#64,⟨R.p,6⟩):=by unfold zL;rw [if_neg (by omega),if_pos h1]
theorem zDU {bs:List zN} {X:BitVec 64} {R:Rs} (h:R.e=0) (h1:¬ bs.length≤R.p) (h2:zJZ (bs.drop R.p) X≠0):zL bs X R=(0#64,⟨R.p,zJZ (bs.drop R.p) X⟩):=by unfold zL;rw [if_neg (by omega),if_neg h1,if_pos h2]
theorem zCr {bs:List zN} {X:BitVec 64} {R:Rs} (h:R.e=0) (h1:¬ bs.length≤R.p) (h2:zJZ (bs.drop R.p) X=0):zL bs X R=((zCi (bs.drop R.p)).1,⟨R.p+(zCi (bs.drop R.p)).2.1,0⟩):=by unfold zL;rw [if_neg (by omega),if_neg h1,if_neg (by omega)]
theorem zDY {bs:List zN} {R:Rs} (h:R.e≠0):zH bs R=(0#8,R):=by unfold zH;rw [if_pos h]
theorem zCw {bs:List zN} {R:Rs} (h:R.e=0) (h1:bs.length≤R.p):zH bs R=(0#8,⟨R.p,6⟩):=by unfold zH;rw [if_neg (by omega),if_pos h1]
theorem zDO {bs:List zN} {R:Rs} (h:R.e=0) (h1:¬ bs.length≤R.p):zH bs R=(bs.getD R.p 0,⟨R.p+1,0⟩):=by unfold zH;rw [if_neg (by omega),if_neg h1]
theorem zAl {bs:List zN} {X:BitVec 64} {R:Rs} (h:R.p≤bs.length):(zL bs X R).2.p≤bs.length∧R.p≤(zL bs X R).2.p∧(zL bs X R).2.p≤R.p+10∧(zL bs X R).1.toNat≤X.toNat∧(R.e≠0→zL bs X R=(0#64,R)):=by
 by_cases h0:R.e=0
 ·by_cases h1:bs.length≤R.p
  ·rw [zCK h0 h1];simp;omega
  ·by_cases h2:zJZ (bs.drop R.p) X=0
   ·rw [zCr h0 h1 h2]
    have:=zRY h2
    have h3:=zVT (bs.drop R.p)
    have h4:=(zKV h2).2
    simp only [List.length_drop] at this
    simp [h0]
    omega
   ·rw [zDU h0 h1 h2];simp [h0];omega
 ·rw [zCY h0];simp;omega
theorem zDL {bs:List zN} {R:Rs} (h:R.p≤bs.length):(zH bs R).2.p≤bs.length∧R.p≤(zH bs R).2.p∧(zH bs R).2.p≤R.p+1∧(R.e≠0→zH bs R=(0#8,R)):=by
 by_cases h0:R.e=0
 ·by_cases h1:bs.length≤R.p
  ·rw [zCw h0 h1];simp [h0];omega
  ·rw [zDO h0 h1];simp [h0];omega
 ·rw [zDY h0];simp;omega
theorem zDX {bs:List zN} {R:Rs} (h:R.p≤bs.length):(zAA bs R).2.p≤bs.length∧R.p≤(zAA bs R).2.p∧(zAA bs R).2.p≤R.p+10∧(R.e≠0→zAA bs R=(0,R)):=by
 have:=zAl (X:=18446744073709551615#64) h
 refine ⟨this.1,this.2.1,this.2.2.1,λh0=>?_⟩
 unfold zAA
 rw [this.2.2.2.2 h0]
 simp [zNk]
theorem zZB {bs:List zN} {R:Rs} (h:R.p≤bs.length):(za3 bs R).p≤bs.length∧R.p≤(za3 bs R).p∧(za3 bs R).p≤R.p+30:=by
 have h1:=zDX h
 have h2:=zDX h1.1
 have h3:=zDX h2.1
 unfold za3
 omega
theorem zBi {bs:List zN} {e:Nat} {R:Rs} (h:R.p≤bs.length):(zBh e R).p≤bs.length∧(zBh e R).p=R.p∧(R.e=0→(zBh e R).e=e)∧(R.e≠0→(zBh e R).e=R.e):=by
 unfold zBh
 split
 · rename_i h0;simp [h,h0]
 · rename_i h0;simp [h,h0]
theorem zQZ {bs:List zN} {R:Rs} (h:R.e≠0):(zH bs R).2.p=R.p∧(zH bs R).2.e=R.e∧(zH bs R).1.toNat=0:=by rw [zDY h];simp
theorem zJn {bs:List zN} {X:BitVec 64} {R:Rs} (h:R.e≠0):(zL bs X R).2.p=R.p∧(zL bs X R).2.e=R.e∧(zL bs X R).1.toNat=0:=by rw [zCY h];simp
theorem zM0 {bs:List zN} {R:Rs} (h:R.e≠0):(zAA bs R).2.p=R.p∧(zAA bs R).2.e=R.e∧(zAA bs R).1=0:=by
 unfold zAA
 rw [zCY h]
 simp [zNk]
structure zW where
 k:Int
 id:Int
 p0:Int
 p1:Int
 p2:Int
 v0:Int
 v1:Int
 v2:Int
 a:BitVec 16
instance : Inhabited zW:=⟨⟨0,0,0,0,0,0,0,0,0#16⟩⟩
structure zW.wf (r:zW):Prop where
 k : -9223372036854775808≤r.k∧r.k≤9223372036854775807
 id : -9223372036854775808≤r.id∧r.id≤9223372036854775807
 p0 : -9223372036854775808≤r.p0∧r.p0≤9223372036854775807
 p1 : -9223372036854775808≤r.p1∧r.p1≤9223372036854775807
 p2 : -9223372036854775808≤r.p2∧r.p2≤9223372036854775807
 v0 : -9223372036854775808≤r.v0∧r.v0≤9223372036854775807
 v1 : -9223372036854775808≤r.v1∧r.v1≤9223372036854775807
 v2 : -9223372036854775808≤r.v2∧r.v2≤9223372036854775807
theorem zW.wf.facts {r:zW} (h:r.wf):(-9223372036854775808≤r.k∧r.k≤9223372036854775807)∧(-9223372036854775808≤r.id∧r.id≤9223372036854775807)∧(-9223372036854775808≤r.p0∧r.p0≤9223372036854775807)∧(-9223372036854775808≤r.p1∧r.p1≤9223372036854775807)∧(-9223372036854775808≤r.p2∧r.p2≤9223372036854775807) ∧
 (-9223372036854775808≤r.v0∧r.v0≤9223372036854775807)∧(-9223372036854775808≤r.v1∧r.v1≤9223372036854775807)∧(-9223372036854775808≤r.v2∧r.v2≤9223372036854775807):=⟨h.k,h.id,h.p0,h.p1,h.p2,h.v0,h.v1,h.v2⟩
def zEA (r:zW):List Value:=[.int .i64 r.k,.int .i64 r.id,.int .i64 r.p0,.int .i64 r.p1,.int .i64 r.p2,.int .i64 r.v0,.int .i64 r.v1,.int .i64 r.v2,.int .u16 ((r.a.toNat:Nat):Int)]
def zW.num (r:zW):Nat→Int
 | 0=>r.p0
 | 1=>r.p1
 | 2=>r.p2
 | 3=>r.v0
 | 4=>r.v1
 | _=>r.v2
def zAm (r:zW):Bool:=r.p0==0 && r.p1==0 && r.p2==0 && r.v0==0 && r.v1==0 && r.v2==0 && (((r.a.toNat:Nat):Int)==0)
def zAK (r:zW):Nat:=if r.k<0∨3<r.k then 11 else if r.id<0∨65535<r.id then 3 else if r.k=1∧zAm r=true∨r.k=2∧zAm r=false then 2 else 0
theorem zNn (r:zW):zAD [.int .i64 r.k,.int .i64 r.id,.int .i64 r.p0,.int .i64 r.p1,.int .i64 r.p2,.int .i64 r.v0,.int .i64 r.v1,.int .i64 r.v2,.int .u16 ((r.a.toNat:Nat):Int)] [.int .i64 r.k,.int .i64 r.id,.int .i64 0,.int .i64 0,.int .i64 0,.int .i64 0,.int .i64 0,.int .i64 0,.int .u16 0]=zAm r:=by
 simp [zAD,vEq,zAm,Bool.and_assoc]
theorem zRi (r:zW):zAK r≤11:=by
 unfold zAK;repeat' split
 all_goals omega
theorem zPJ {r:zW} (h:zAK r=0):0≤r.k∧r.k≤3∧0≤r.id∧r.id≤65535:=by
 unfold zAK at h
 split at h
 ·cases h
 ·split at h
  ·cases h
  ·omega
def zCf (x:Int):List zN:=zBt (zFE x).toNat
theorem zAM (x:Int):(zCf x).length≤10∧1≤(zCf x).length:=by
 have:=zDH (zFE x).toNat
 have:=zB6 (zFE x).toNat
 unfold zCf
 simp only [zBe] at *
 omega
def zBK (r:zW):List zN:=zCf r.p0++zCf r.p1++zCf r.p2++zCf r.v0++zCf r.v1++zCf r.v2++zBt r.a.toNat
def zA1 (r:zW):Nat→BitVec 8
 | 0=>0#8
 | i+1=>if r.num i=0 then zA1 r i else zA1 r i|||(1#8<<<i)
def zAg (r:zW):Nat→List zN
 | 0=>[]
 | i+1=>if r.num i=0 then zAg r i else zAg r i++zCf (r.num i)
def zCH (r:zW):BitVec 8:=if r.a=0#16 then zA1 r 6 else zA1 r 6|||64#8
def zHH (r:zW):List zN:=if r.a=0#16 then zAg r 6 else zAg r 6++zBt r.a.toNat
def zBD (r:zW):List zN:=zCH r::zHH r
def zCn (r:zW):List zN:=if r.k=1 then zBD r else if r.k=2 then [] else zBK r
def zAt (r:zW) (last:Int):Nat:=if zAK r≠0 then zAK r else if last < -1∨65535<last then 3 else if r.id≤last then 10 else 0
def zAa (r:zW) (last:Int):List zN:=zBt (BitVec.ofInt 64 (r.id-last-1)).toNat++[BitVec.ofInt 8 r.k]
def zCb (r:zW) (last:Int):List zN:=if zAt r last≠0 then [] else zAa r last++zCn r
theorem zOx {r:zW} {i:Nat} (h:r.num i=0):zA1 r (i+1)=zA1 r i:=by simp [zA1,h]
theorem zPq {r:zW} {i:Nat} (h:r.num i≠0):zA1 r (i+1)=zA1 r i|||(1#8<<<i):=by simp [zA1,h]
theorem zIS {r:zW} {i:Nat} (h:r.num i=0):zAg r (i+1)=zAg r i:=by simp [zAg,h]
theorem zIB {r:zW} {i:Nat} (h:r.num i≠0):zAg r (i+1)=zAg r i++zCf (r.num i):=by simp [zAg,h]
theorem zBb (r:zW):∀ i,(zAg r i).length≤10*i:=by
 intro i
 induction i with
 | zero=>simp [zAg]
 | succ i ih =>
  unfold zAg
  have:=zAM (r.num i)
  split
  ·omega
  ·simp;omega
theorem zEm (n:Nat):(zBt n).length≤10:=by have:=zDH n;simpa [zBe] using this
theorem zIc (r:zW) (last:Int):(zCb r last).length≤100:=by
 unfold zCb
 split
 ·simp
 ·have h1:=zEm (BitVec.ofInt 64 (r.id-last-1)).toNat
  have h2:=zEm r.a.toNat
  have h3:=zBb r 6
  have n0:=zAM r.p0
  have n1:=zAM r.p1
  have n2:=zAM r.p2
  have n3:=zAM r.v0
  have n4:=zAM r.v1
  have n5:=zAM r.v2
  unfold zAa zCn
  split
  ·unfold zBD zHH
   split<;>simp only [List.length_append,List.length_cons,List.length_nil]<;>omega
  ·split
   ·simp only [List.length_append,List.length_cons,List.length_nil];omega
   ·unfold zBK;simp only [List.length_append,List.length_cons,List.length_nil];omega
theorem zOU {bs l:List zN} {x:zN} {m:Nat} (h:bs.length=m):(bs++x::l).getD m 0=x:=by
 subst h
 simp [List.getD_eq_getElem?_getD]
theorem zSu {bs l:List zN} {x y:zN} {m:Nat} (h:bs.length=m):(bs++x::l).set m y=bs++y::l:=by
 subst h
 simp
theorem zXB (a:BitVec 16):(a.setWidth 64).toNat=a.toNat:=by
 rw [BitVec.toNat_setWidth]
 have:=a.isLt
 omega
theorem zPS {a:BitVec 16} (h:((a.toNat:Nat):Int)=0):a=0#16:=BitVec.eq_of_toNat_eq (by simpa using h)
theorem zcG {a:BitVec 16} (h:((a.toNat:Nat):Int)≠0):a≠0#16:=λe=>h (by subst e;rfl)
theorem zBo {r:zW} (h:((r.a.toNat:Nat):Int)=0):zBD r=zA1 r 6::zAg r 6:=by
 unfold zBD zCH zHH
 rw [if_pos (zPS h),if_pos (zPS h)]
theorem zBk {r:zW} (h:((r.a.toNat:Nat):Int)≠0):zBD r=(zA1 r 6|||64#8)::(zAg r 6++zBt r.a.toNat):=by
 unfold zBD zCH zHH
 rw [if_neg (zcG h),if_neg (zcG h)]
theorem zJh (r:zW):(zBD r).length≤71:=by
 have h2:=zEm r.a.toNat
 have h3:=zBb r 6
 unfold zBD zHH
 split<;>simp only [List.length_append,List.length_cons]<;>omega
theorem zLO (r:zW):(zBK r).length≤70:=by
 have h2:=zEm r.a.toNat
 have n0:=zAM r.p0
 have n1:=zAM r.p1
 have n2:=zAM r.p2
 have n3:=zAM r.v0
 have n4:=zAM r.v1
 have n5:=zAM r.v2
 unfold zBK
 simp only [List.length_append]
 omega
theorem zDy {r:zW} {last:Int} (h:zAt r last≠0):zCb r last=[]:=by unfold zCb;rw [if_pos h]
theorem zBS {r:zW} {last:Int} (h:zAt r last=0) (hk:r.k=0∨r.k=3):zCb r last=zAa r last++zBK r:=by
 unfold zCb zCn
 rw [if_neg (by omega),if_neg (by omega),if_neg (by omega)]
theorem zAW {r:zW} {last:Int} (h:zAt r last=0) (hk:r.k=1):zCb r last=zAa r last++zBD r:=by
 unfold zCb zCn
 rw [if_neg (by omega),if_pos hk]
theorem zA3 {r:zW} {last:Int} (h:zAt r last=0) (hk:r.k=2):zCb r last=zAa r last:=by
 unfold zCb zCn
 rw [if_neg (by omega),if_neg (by omega),if_pos hk,List.append_nil]
theorem zCS {r:zW} {last:Int} (h:zAK r≠0):zAt r last=zAK r:=by unfold zAt;rw [if_pos h]
theorem zCP {r:zW} {last:Int} (h:zAK r=0) (h2:last < -1∨65535<last):zAt r last=3:=by unfold zAt;rw [if_neg (by omega),if_pos h2]
theorem zCO {r:zW} {last:Int} (h:zAK r=0) (h2:¬ (last < -1∨65535<last)) (h3:r.id≤last):zAt r last=10:=by unfold zAt;rw [if_neg (by omega),if_neg h2,if_pos h3]
theorem zCV {r:zW} {last:Int} (h:zAK r=0) (h2:¬ (last < -1∨65535<last)) (h3:¬ r.id≤last):zAt r last=0:=by unfold zAt;rw [if_neg (by omega),if_neg h2,if_neg h3]
theorem zJe (r:zW) (last:Int):(zAa r last).length≤11:=by
 have h1:=zEm (BitVec.ofInt 64 (r.id-last-1)).toNat
 unfold zAa
 simp only [List.length_append,List.length_cons,List.length_nil]
 omega
theorem zDJ {r:zW} {last:Int} (h:zAt r last=0):0≤r.id∧r.id≤65535 ∧ -1≤last∧last<r.id:=by
 unfold zAt at h
 split at h
 ·omega
 ·rename_i h0
  have h1:=zPJ (r:=r) (by omega)
  split at h
  ·cases h
  ·split at h
   ·cases h
   ·omega
def zXc (m:BitVec 8):Nat→BitVec 8
 | 0=>m
 | i+1=>zXc m i/2#8
theorem zRM (m:BitVec 8):∀ i,zXc m i=m>>>i
 | 0=>by simp [zXc]
 | i+1=>by
  unfold zXc
  rw [zRM m i]
  apply BitVec.eq_of_toNat_eq
  rw [BitVec.toNat_udiv,BitVec.toNat_ushiftRight,BitVec.toNat_ushiftRight,Nat.shiftRight_succ]
  rfl
def zAn (m:BitVec 8) (i:Nat):Bool:=((zXc m i).toNat%2)==1
def upI (bs:List zN) (m:BitVec 8) (i:Nat) (R:Rs):Int×Rs :=
 if zAn m i=true then ((zAA bs R).1,if (zAA bs R).1=0 then zBh 7 (zAA bs R).2 else (zAA bs R).2) else (0,R)
def upS (bs:List zN) (m:BitVec 8) (R:Rs):Nat→Rs
 | 0=>R
 | i+1=>(upI bs m i (upS bs m R i)).2
def upX (bs:List zN) (m:BitVec 8) (R:Rs) (i:Nat):Int:=(upI bs m i (upS bs m R i)).1
def upA (bs:List zN) (m:BitVec 8) (R:Rs):BitVec 16×Rs :=
 if zAn m 6=true then (((zL bs 65535#64 R).1).setWidth 16,if (zL bs 65535#64 R).1=0#64 then zBh 7 (zL bs 65535#64 R).2 else (zL bs 65535#64 R).2) else (0#16,R)
def zAj (bs:List zN) (k id:Int) (R:Rs):zW×Rs :=
 let q:=zH bs R
 if q.1.toNat=0∨127<q.1.toNat then (⟨k,id,0,0,0,0,0,0,0#16⟩,zBh 7 q.2)
 else (⟨k,id,upX bs q.1 q.2 0,upX bs q.1 q.2 1,upX bs q.1 q.2 2,upX bs q.1 q.2 3,upX bs q.1 q.2 4,upX bs q.1 q.2 5,(upA bs q.1 (upS bs q.1 q.2 6)).1⟩,(upA bs q.1 (upS bs q.1 q.2 6)).2)
def nS (bs:List zN) (R:Rs):Nat→Rs
 | 0=>R
 | i+1=>(zAA bs (nS bs R i)).2
def nX (bs:List zN) (R:Rs) (i:Nat):Int:=(zAA bs (nS bs R i)).1
def zBW (bs:List zN) (k id:Int) (R:Rs):zW×Rs :=
 (⟨k,id,nX bs R 0,nX bs R 1,nX bs R 2,nX bs R 3,nX bs R 4,nX bs R 5,((zL bs 65535#64 (nS bs R 6)).1).setWidth 16⟩,(zL bs 65535#64 (nS bs R 6)).2)
def zBB (bs:List zN) (k id:Int) (R:Rs):zW×Rs :=
 if k=0∨k=3 then zBW bs k id R else if k=1 then zAj bs k id R else if k=2 then (⟨k,id,0,0,0,0,0,0,0#16⟩,R) else (⟨k,id,0,0,0,0,0,0,0#16⟩,zBh 11 R)
def zOb : zW:=⟨0,0,0,0,0,0,0,0,0#16⟩
def zIz (bs:List zN) (last:Int) (R:Rs):BitVec 64×Rs:=zL bs (BitVec.ofInt 64 (65534-last)) R
def zD4 (bs:List zN) (last:Int) (R:Rs):zW×Rs :=
 zBB bs (((zH bs (zIz bs last R).2).1.toNat:Nat):Int) (last+1+(((zIz bs last R).1.toNat:Nat):Int)) (zH bs (zIz bs last R).2).2
def zAF (bs:List zN) (last:Int) (R:Rs):zW×Nat×Rs :=
 if last < -1∨65535<last then (zOb,3,R) else if last=65535 then (zOb,(zBh 10 R).e,zBh 10 R)
 else if (zD4 bs last R).2.e≠0 then (zOb,(zD4 bs last R).2.e,(zD4 bs last R).2) else ((zD4 bs last R).1,0,(zD4 bs last R).2)
def zdn (r:zW):Nat→List zN
 | 0=>[]
 | i+1=>zdn r i++zCf (r.num i)
theorem zHv (r:zW):zdn r 6=zCf r.p0++zCf r.p1++zCf r.p2++zCf r.v0++zCf r.v1++zCf r.v2:=rfl
def upQ (bs:List zN) (m:BitVec 8) (R:Rs) (i j:Nat):Int:=if j<i then upX bs m R j else 0
section
variable {bs : List zN} {m : BitVec 8} {R : Rs} {i : Nat} {p q z : Value}
theorem zbf (h:upX bs m R i=0) (j:Nat):upQ bs m R i j=upQ bs m R (i+1) j:=by
 unfold upQ
 by_cases h1:j<i
 ·rw [if_pos h1,if_pos (by omega)]
 ·by_cases h2:j=i
  ·subst h2;rw [if_neg h1,if_pos (by omega),h]
  ·rw [if_neg h1,if_neg (by omega)]
theorem six {i:Nat} (h:i<6):i=0∨i=1∨i=2∨i=3∨i=4∨i=5:=by omega
theorem zYl (h:i<6) : [p,q,zI (upQ bs m R i 0),zI (upQ bs m R i 1),zI (upQ bs m R i 2),zI (upQ bs m R i 3),zI (upQ bs m R i 4),zI (upQ bs m R i 5),z].set (2+i) (zI (upX bs m R i))=[p,q,zI (upQ bs m R (i+1) 0),zI (upQ bs m R (i+1) 1),zI (upQ bs m R (i+1) 2),zI (upQ bs m R (i+1) 3),zI (upQ bs m R (i+1) 4),zI (upQ bs m R (i+1) 5),z]:=by
 rcases six h with rfl | rfl | rfl | rfl | rfl | rfl<;>simp [upQ]
theorem zYw (h:i<6) : [p,q,zI (upQ bs m R (i+1) 0),zI (upQ bs m R (i+1) 1),zI (upQ bs m R (i+1) 2),zI (upQ bs m R (i+1) 3),zI (upQ bs m R (i+1) 4),zI (upQ bs m R (i+1) 5),z][2+i]? = some (zI (upX bs m R i)):=by
 rcases six h with rfl | rfl | rfl | rfl | rfl | rfl<;>simp [upQ]
theorem zXI {g:Nat} (h:i<6) : [pt g 2,pt g 3,pt g 4,pt g 5,pt g 6,pt g 7][((i:Nat):Int).toNat]? = some (pt g (2+i)):=by
 rcases six h with rfl | rfl | rfl | rfl | rfl | rfl<;>rfl
theorem zYC {r:zW} (hw:r.wf) (h:i<6) : -9223372036854775808≤r.num i∧r.num i≤9223372036854775807:=by
 rcases six h with rfl | rfl | rfl | rfl | rfl | rfl
 · exact hw.p0
 · exact hw.p1
 · exact hw.p2
 · exact hw.v0
 · exact hw.v1
 · exact hw.v2
theorem zTz {r:zW} (h:i<6) : [p,q,zI r.p0,zI r.p1,zI r.p2,zI r.v0,zI r.v1,zI r.v2,z][2+i]? = some (zI (r.num i)):=by
 rcases six h with rfl | rfl | rfl | rfl | rfl | rfl<;>rfl
end
theorem zXD {m:BitVec 8} {i:Nat}:zAn m i=true↔(zXc m i).toNat%2=1:=by unfold zAn;simp
theorem zXu (m:BitVec 8) (i:Nat):((m>>>i)&&&1#8).toNat=(zXc m i).toNat%2:=by
 rw [BitVec.toNat_and,show (1#8).toNat=1 from rfl,Nat.and_one_is_mod,zRM]
theorem zZy {m:BitVec 8} {i:Nat} (h:((((m>>>i)&&&1#8).toNat:Nat):Int)=0):zAn m i=false:=by
 rw [zXu] at h
 unfold zAn
 rw [show (zXc m i).toNat%2=0 by omega]
 rfl
theorem zYu {m:BitVec 8} {i:Nat} (h:((((m>>>i)&&&1#8).toNat:Nat):Int)≠0):zAn m i=true:=by
 rw [zXu] at h
 rw [zXD]
 omega
theorem zbU (m:BitVec 8):(m&&&64#8).toNat=0↔zAn m 6=false:=by
 have key:∀ m:BitVec 8,(m&&&64#8).toNat=0↔zAn m 6=false:=by decide +kernel
 exact key m
theorem zVL {m:BitVec 8} (h:(((m&&&64#8).toNat:Nat):Int)=0):zAn m 6=false:=(zbU m).1 (by omega)
theorem zVq {m:BitVec 8} (h:(((m&&&64#8).toNat:Nat):Int)≠0):zAn m 6=true:=by
 cases hb:zAn m 6 with
 | true=>rfl
 | false=>exact absurd ((zbU m).2 hb) (by omega)
theorem zYp {bs:List zN} {m:BitVec 8} {R:Rs} (h:zAn m 6=false):upA bs m R=(0#16,R):=by unfold upA;rw [if_neg (by rw [h];decide)]
theorem zX9 {bs:List zN} {m:BitVec 8} {R:Rs} (h:zAn m 6=true) (h2:(zL bs 65535#64 R).1.toNat=0):upA bs m R=((zL bs 65535#64 R).1.setWidth 16,zBh 7 (zL bs 65535#64 R).2):=by
 unfold upA
 rw [if_pos h,if_pos (BitVec.eq_of_toNat_eq h2)]
theorem zYr {bs:List zN} {m:BitVec 8} {R:Rs} (h:zAn m 6=true) (h2:(zL bs 65535#64 R).1.toNat≠0):upA bs m R=((zL bs 65535#64 R).1.setWidth 16,(zL bs 65535#64 R).2):=by
 unfold upA
 rw [if_pos h,if_neg (λe=>h2 (by rw [e];rfl))]
theorem zct {X:BitVec 64} (h:X.toNat≤65535):(X.setWidth 16).toNat=X.toNat:=by
 rw [BitVec.toNat_setWidth]
 omega
theorem zJQ {X:BitVec 64} (h:X.toNat≤65535):X.toInt=((X.toNat:Nat):Int):=by
 rw [BitVec.toInt_eq_toNat_cond,if_pos (by omega)]
theorem zCu {x:Int} (h:0≤x) (h2:x≤9223372036854775807):(((BitVec.ofInt 64 x).toNat:Nat):Int)=x:=by
 rw [BitVec.toNat_ofInt]
 omega
theorem zdy {bs:List zN} {m:BitVec 8} {R:Rs} {i:Nat} (h:zAn m i=true) (h2:(zAA bs (upS bs m R i)).1=0):upS bs m R (i+1)=zBh 7 (zAA bs (upS bs m R i)).2:=by
 show (upI _ _ _ _).2=_
 unfold upI
 rw [if_pos h]
 dsimp only
 rw [if_pos h2]
theorem zdz {bs:List zN} {m:BitVec 8} {R:Rs} {i:Nat} (h:zAn m i=true) (h2:(zAA bs (upS bs m R i)).1≠0):upS bs m R (i+1)=(zAA bs (upS bs m R i)).2:=by
 show (upI _ _ _ _).2=_
 unfold upI
 rw [if_pos h]
 dsimp only
 rw [if_neg h2]
theorem zdA {bs:List zN} {m:BitVec 8} {R:Rs} {i:Nat} (h:zAn m i=true):upX bs m R i=(zAA bs (upS bs m R i)).1:=by
 unfold upX upI
 rw [if_pos h]
theorem zdX {bs:List zN} {m:BitVec 8} {R:Rs} {i:Nat} (h:zAn m i=false):upS bs m R (i+1)=upS bs m R i:=by
 show (upI _ _ _ _).2=_
 unfold upI
 rw [if_neg (by rw [h];decide)]
theorem zdI {bs:List zN} {m:BitVec 8} {R:Rs} {i:Nat} (h:zAn m i=false):upX bs m R i=0:=by
 unfold upX upI
 rw [if_neg (by rw [h];decide)]
theorem zbC {bs:List zN} {m:BitVec 8} {i:Nat} {R:Rs} (h:R.p≤bs.length):(upI bs m i R).2.p≤bs.length∧R.p≤(upI bs m i R).2.p∧(upI bs m i R).2.p≤R.p+10:=by
 unfold upI
 have h1:=zDX h
 split
 ·dsimp only
  split
  ·have:=zBi (e:=7) h1.1;omega
  ·omega
 ·dsimp only;omega
theorem zIq {bs:List zN} {m:BitVec 8} {R:Rs} (h:R.p≤bs.length):∀ i,(upS bs m R i).p≤bs.length∧R.p≤(upS bs m R i).p∧(upS bs m R i).p≤R.p+10*i
 | 0=>by simp [upS,h]
 | i+1=>by
  have h1:=zIq h i (m:=m)
  have h2:=zbC (m:=m) (i:=i) h1.1
  show (upI _ _ _ _).2.p≤_∧_≤(upI _ _ _ _).2.p∧(upI _ _ _ _).2.p≤_
  omega
theorem zRI {bs:List zN} {R:Rs} (h:R.p≤bs.length):∀ i,(nS bs R i).p≤bs.length∧R.p≤(nS bs R i).p∧(nS bs R i).p≤R.p+10*i
 | 0=>by simp [nS,h]
 | i+1=>by
  have h1:=zRI h i
  have h2:=zDX h1.1
  show (zAA _ _).2.p≤_∧_≤(zAA _ _).2.p∧(zAA _ _).2.p≤_
  omega
theorem zbr {bs:List zN} {m:BitVec 8} {R:Rs} (h:R.p≤bs.length):(upA bs m R).2.p≤bs.length∧R.p≤(upA bs m R).2.p:=by
 unfold upA
 have h1:=zAl (X:=65535#64) h
 split
 ·dsimp only
  split
  ·have:=zBi (e:=7) h1.1;omega
  ·omega
 ·dsimp only;omega
section
variable {bs : List zN} {m : BitVec 8} {R : Rs} {i : Nat}
end
theorem zM7 {bs:List zN} {k id:Int} {R:Rs} (h:R.p≤bs.length):(zAj bs k id R).2.p≤bs.length∧R.p≤(zAj bs k id R).2.p:=by
 have h1:=zDL h
 have h2:=zIq (m:=(zH bs R).1) h1.1 6
 have h3:=zbr (m:=(zH bs R).1) h2.1
 have h4:=zBi (e:=7) h1.1
 unfold zAj
 dsimp only
 split<;>(dsimp only;omega)
theorem zK1 {bs:List zN} {k id:Int} {R:Rs} (h:R.p≤bs.length):(zBW bs k id R).2.p≤bs.length∧R.p≤(zBW bs k id R).2.p:=by
 have h2:=zRI h 6
 have h3:=zAl (X:=65535#64) h2.1
 unfold zBW
 dsimp only;omega
theorem zSl {bs:List zN} {k id:Int} {R:Rs} (h:R.p≤bs.length):(zBB bs k id R).2.p≤bs.length∧R.p≤(zBB bs k id R).2.p:=by
 unfold zBB
 split
 ·exact zK1 h
 ·split
  ·exact zM7 h
  ·split
   ·dsimp only;omega
   ·have:=zBi (e:=11) h;dsimp only;omega
theorem zK4 {bs:List zN} {last:Int} {R:Rs} (h:R.p≤bs.length):(zAF bs last R).2.2.p≤bs.length∧R.p≤(zAF bs last R).2.2.p:=by
 have h1:(zIz bs last R).2.p≤bs.length∧R.p≤(zIz bs last R).2.p:=by
  have:=zAl (X:=BitVec.ofInt 64 (65534-last)) h
  unfold zIz
  omega
 have h2:=zDL h1.1
 have h3:(zD4 bs last R).2.p≤bs.length∧(zH bs (zIz bs last R).2).2.p≤(zD4 bs last R).2.p:=zSl h2.1
 have h4:=zBi (e:=10) h
 unfold zAF
 repeat' split
 all_goals (dsimp only;omega)
theorem zKp {α β:Type} {p x:α×β} (h:p=x):p=(x.1,x.2):=h
theorem zGv (bs:List zN) (last:Int) (R:Rs):zD4 bs last R=zBB bs (((zH bs (zL bs (BitVec.ofInt 64 (65534-last)) R).2).1.toNat:Nat):Int) (last+1+(((zL bs (BitVec.ofInt 64 (65534-last)) R).1.toNat:Nat):Int)) (zH bs (zL bs (BitVec.ofInt 64 (65534-last)) R).2).2:=rfl
theorem zFu {bs:List zN} {k id:Int} {R:Rs} (h:k=0∨k=3):zBB bs k id R=zBW bs k id R:=by unfold zBB;rw [if_pos h]
theorem zGM {bs:List zN} {k id:Int} {R:Rs} (h:k=1):zBB bs k id R=zAj bs k id R:=by unfold zBB;rw [if_neg (by omega),if_pos h]
theorem zGG {bs:List zN} {k id:Int} {R:Rs} (h:k=2):zBB bs k id R=(⟨k,id,0,0,0,0,0,0,0#16⟩,R):=by unfold zBB;rw [if_neg (by omega),if_neg (by omega),if_pos h]
theorem zKP {bs:List zN} {k id:Int} {R:Rs} (h:¬ (k=0∨k=1∨k=2∨k=3)):zBB bs k id R=(⟨k,id,0,0,0,0,0,0,0#16⟩,zBh 11 R):=by unfold zBB;rw [if_neg (by omega),if_neg (by omega),if_neg (by omega)]
theorem zEw {bs:List zN} {last:Int} {R:Rs} (h:last < -1∨65535<last):zAF bs last R=(zOb,3,R):=by unfold zAF;rw [if_pos h]
theorem zE9 {bs:List zN} {last:Int} {R:Rs} (h:last=65535):zAF bs last R=(zOb,(zBh 10 R).e,zBh 10 R):=by unfold zAF;rw [if_neg (by omega),if_pos h]
theorem zEO {bs:List zN} {last:Int} {R RR:Rs} {rr:zW} (h:¬ (last < -1∨65535<last)) (h2:last≠65535) (hr:zD4 bs last R=(rr,RR)) (he:RR.e≠0):zAF bs last R=(zOb,RR.e,RR):=by
 unfold zAF
 rw [if_neg h,if_neg h2,hr,if_pos he]
theorem zFS {bs:List zN} {last:Int} {R RR:Rs} {rr:zW} (h:¬ (last < -1∨65535<last)) (h2:last≠65535) (hr:zD4 bs last R=(rr,RR)) (he:RR.e=0):zAF bs last R=(rr,0,RR):=by
 unfold zAF
 rw [if_neg h,if_neg h2,hr,if_neg (by simpa using he)]
theorem zHE {bs:List zN} {k id:Int} {R:Rs} (h:(zH bs R).1.toNat=0∨127<(zH bs R).1.toNat):zAj bs k id R=(⟨k,id,0,0,0,0,0,0,0#16⟩,zBh 7 (zH bs R).2):=by
 unfold zAj
 dsimp only
 rw [if_pos h]
theorem zG6 {bs:List zN} {k id:Int} {R:Rs} {A:BitVec 16} {T:Rs} (h:¬ ((zH bs R).1.toNat=0∨127<(zH bs R).1.toNat)) (hA:upA bs (zH bs R).1 (upS bs (zH bs R).1 (zH bs R).2 6)=(A,T)):zAj bs k id R=(⟨k,id,upX bs (zH bs R).1 (zH bs R).2 0,upX bs (zH bs R).1 (zH bs R).2 1,upX bs (zH bs R).1 (zH bs R).2 2,upX bs (zH bs R).1 (zH bs R).2 3,upX bs (zH bs R).1 (zH bs R).2 4,upX bs (zH bs R).1 (zH bs R).2 5,A⟩,T):=by
 unfold zAj
 dsimp only
 rw [if_neg h,hA]
theorem zOn {bs:List zN} {last:Int} {R:Rs} (h:R.p≤bs.length) (h1 : -1≤last) (h2:last<65535):(((zL bs (BitVec.ofInt 64 (65534-last)) R).1.toNat:Nat):Int)≤65534-last:=by
 have h3:=(zAl (X:=BitVec.ofInt 64 (65534-last)) h).2.2.2.1
 have h4:=zCu (x:=65534-last) (by omega) (by omega)
 omega
theorem zW7 {bs:List zN} {last:Int} {R:Rs} (h:R.p≤bs.length) (h1 : -1≤last) (h2:last<65535):(zL bs (BitVec.ofInt 64 (65534-last)) R).1.toInt=(((zL bs (BitVec.ofInt 64 (65534-last)) R).1.toNat:Nat):Int):=by
 have:=zOn h h1 h2
 by_cases h5:65534-last≤65535
 · exact zJQ (by omega)
 · exact zJQ (by omega)
structure zS where
 id:Int
 p0:Int
 p1:Int
 p2:Int
 v0:Int
 v1:Int
 v2:Int
 a:BitVec 16
 g:BitVec 8
instance : Inhabited zS:=⟨⟨0,0,0,0,0,0,0,0#16,0#8⟩⟩
structure zS.wf (r:zS):Prop where
 id : -9223372036854775808≤r.id∧r.id≤9223372036854775807
 p0 : -9223372036854775808≤r.p0∧r.p0≤9223372036854775807
 p1 : -9223372036854775808≤r.p1∧r.p1≤9223372036854775807
 p2 : -9223372036854775808≤r.p2∧r.p2≤9223372036854775807
 v0 : -9223372036854775808≤r.v0∧r.v0≤9223372036854775807
 v1 : -9223372036854775808≤r.v1∧r.v1≤9223372036854775807
 v2 : -9223372036854775808≤r.v2∧r.v2≤9223372036854775807
def zBJ (r:zS):List Value:=[.int .i64 r.id,.int .i64 r.p0,.int .i64 r.p1,.int .i64 r.p2,.int .i64 r.v0,.int .i64 r.v1,.int .i64 r.v2,.int .u16 ((r.a.toNat:Nat):Int),.int .u8 ((r.g.toNat:Nat):Int)]
theorem zBd (r:zS):(zBJ r).length=9:=rfl
def zDS : zS:=⟨0,0,0,0,0,0,0,0#16,0#8⟩
def zJf (a b:zS):Bool:=zAD (zBJ a) (zBJ b)
theorem zN0 {r s:zS}:zAD (zBJ r) (zBJ s)=true↔r=s:=by
 constructor
 ·intro h
  cases r;cases s
  simp only [zAD,zBJ,vEq,Bool.and_eq_true,beq_iff_eq,Bool.and_true,Bool.true_and] at h
  obtain ⟨h1,h2,h3,h4,h5,h6,h7,h8,h9⟩:=h
  have h8':=BitVec.eq_of_toNat_eq (Int.ofNat.inj h8)
  have h9':=BitVec.eq_of_toNat_eq (Int.ofNat.inj h9)
  subst h1 h2 h3 h4 h5 h6 h7 h8' h9'
  rfl
 ·rintro rfl
  simp [zAD,zBJ,vEq]
def zAE (a b:zS):zW×Bool :=
 if zJf a b=true then (zOb,false)
 else if a.g.toNat=b.g.toNat then (⟨1,b.id,IntKind.i64.wrap (b.p0-a.p0),IntKind.i64.wrap (b.p1-a.p1),IntKind.i64.wrap (b.p2-a.p2),IntKind.i64.wrap (b.v0-a.v0),IntKind.i64.wrap (b.v1-a.v1),IntKind.i64.wrap (b.v2-a.v2),b.a-a.a⟩,true)
 else (⟨3,b.id,b.p0,b.p1,b.p2,b.v0,b.v1,b.v2,b.a⟩,true)
def zU (a:zS) (r:zW):zS×Nat :=
 if zAK r≠0 then (zDS,zAK r) else if r.id≠a.id∨r.k=0∨r.k=2 then (zDS,15)
 else if r.k=3 then (⟨a.id,r.p0,r.p1,r.p2,r.v0,r.v1,r.v2,r.a,a.g+1#8⟩,0)
 else (⟨a.id,IntKind.i64.wrap (a.p0+r.p0),IntKind.i64.wrap (a.p1+r.p1),IntKind.i64.wrap (a.p2+r.p2),IntKind.i64.wrap (a.v0+r.v0),IntKind.i64.wrap (a.v1+r.v1),IntKind.i64.wrap (a.v2+r.v2),a.a+r.a,a.g⟩,0)
theorem zEL {x y:Int} (hy : -9223372036854775808≤y∧y≤9223372036854775807):IntKind.i64.wrap (x+IntKind.i64.wrap (y-x))=y:=by
 simp only [IntKind.wrap_i64]
 omega
theorem zEG {x y:Int} (hx : -9223372036854775808≤x∧x≤9223372036854775807) (hy : -9223372036854775808≤y∧y≤9223372036854775807) (h:IntKind.i64.wrap (y-x)=0):y=x:=by
 simp only [IntKind.wrap_i64] at h
 omega
theorem zBT (x:Int) : -9223372036854775808≤IntKind.i64.wrap x∧IntKind.i64.wrap x≤9223372036854775807:=by
 simp only [IntKind.wrap_i64]
 omega
theorem zFs {a b:zS} (h:zJf a b=true):zAE a b=(zOb,false):=by unfold zAE;rw [if_pos h]
theorem zDj {a b:zS} (h:zJf a b=false) (h2:a.g.toNat=b.g.toNat):zAE a b=(⟨1,b.id,IntKind.i64.wrap (b.p0-a.p0),IntKind.i64.wrap (b.p1-a.p1),IntKind.i64.wrap (b.p2-a.p2),IntKind.i64.wrap (b.v0-a.v0),IntKind.i64.wrap (b.v1-a.v1),IntKind.i64.wrap (b.v2-a.v2),b.a-a.a⟩,true):=by
 unfold zAE
 rw [if_neg (by rw [h];decide),if_pos h2]
theorem zDq {a b:zS} (h:zJf a b=false) (h2:a.g.toNat≠b.g.toNat):zAE a b=(⟨3,b.id,b.p0,b.p1,b.p2,b.v0,b.v1,b.v2,b.a⟩,true):=by
 unfold zAE
 rw [if_neg (by rw [h];decide),if_neg h2]
theorem zP3 {a b:zS} (hb:b.wf):(zAE a b).1.wf:=by
 unfold zAE
 split
 ·exact ⟨by decide,by decide,by decide,by decide,by decide,by decide,by decide,by decide⟩
 ·split
  ·exact ⟨(show -9223372036854775808≤(1:Int)∧(1:Int)≤9223372036854775807 by decide),hb.id,zBT _,zBT _,zBT _,zBT _,zBT _,zBT _⟩
  ·exact ⟨(show -9223372036854775808≤(3:Int)∧(3:Int)≤9223372036854775807 by decide),hb.id,hb.p0,hb.p1,hb.p2,hb.v0,hb.v1,hb.v2⟩
theorem zCR {a:zS} {r:zW} (h:zAK r≠0):zU a r=(zDS,zAK r):=by unfold zU;rw [if_pos h]
theorem zCv {a:zS} {r:zW} (h:zAK r=0) (h2:r.id≠a.id∨r.k=0∨r.k=2):zU a r=(zDS,15):=by unfold zU;rw [if_neg (by omega),if_pos h2]
theorem zBX {a:zS} {r:zW} (h:zAK r=0) (h2:¬ (r.id≠a.id∨r.k=0∨r.k=2)) (h3:r.k=3):zU a r=(⟨a.id,r.p0,r.p1,r.p2,r.v0,r.v1,r.v2,r.a,a.g+1#8⟩,0):=by
 unfold zU
 rw [if_neg (by omega),if_neg h2,if_pos h3]
theorem zBa {a:zS} {r:zW} (h:zAK r=0) (h2:¬ (r.id≠a.id∨r.k=0∨r.k=2)) (h3:r.k≠3):zU a r=(⟨a.id,IntKind.i64.wrap (a.p0+r.p0),IntKind.i64.wrap (a.p1+r.p1),IntKind.i64.wrap (a.p2+r.p2),IntKind.i64.wrap (a.v0+r.v0),IntKind.i64.wrap (a.v1+r.v1),IntKind.i64.wrap (a.v2+r.v2),a.a+r.a,a.g⟩,0):=by
 unfold zU
 rw [if_neg (by omega),if_neg h2,if_neg h3]
theorem zJu (x y:BitVec 16):x+(y-x)=y:=by
 apply BitVec.eq_of_toNat_eq
 simp only [BitVec.toNat_add,BitVec.toNat_sub]
 have:=x.isLt
 have:=y.isLt
 omega
theorem zQP {A B : zS} (ha : A.wf) (hb : B.wf) (hid : 0 ≤ A.id ∧ A.id ≤ 65535) (he : B.id = A.id) (hg : B.g = A.g ∨ B.g = A.g + 1#8) (hne : (zAE A B).2 = true) :
   zU A (zAE A B).1=(B,0)∧zAK (zAE A B).1=0∧zJf A B=false∧((zAE A B).1.k=3↔B.g≠A.g)∧((zAE A B).1.k=1∨(zAE A B).1.k=3)∧(zAE A B).1.id=B.id:=by
 cases heq:zJf A B with
 | true=>rw [zFs heq] at hne;cases hne
 | false =>
   have hAB:A≠B:=λe=>by
     rw [show zJf A B=true from zN0.2 e] at heq
     cases heq
   by_cases h2:A.g.toNat=B.g.toNat
   · have hgg:B.g=A.g:=(BitVec.eq_of_toNat_eq h2).symm
     have hemp:zAm (⟨1,B.id,IntKind.i64.wrap (B.p0-A.p0),IntKind.i64.wrap (B.p1-A.p1),IntKind.i64.wrap (B.p2-A.p2),IntKind.i64.wrap (B.v0-A.v0),IntKind.i64.wrap (B.v1-A.v1),IntKind.i64.wrap (B.v2-A.v2),B.a-A.a⟩ : zW)=false:=by
       cases hx:zAm (⟨1,B.id,IntKind.i64.wrap (B.p0-A.p0),IntKind.i64.wrap (B.p1-A.p1),IntKind.i64.wrap (B.p2-A.p2),IntKind.i64.wrap (B.v0-A.v0),IntKind.i64.wrap (B.v1-A.v1),IntKind.i64.wrap (B.v2-A.v2),B.a-A.a⟩ : zW) with
       | false=>rfl
       | true =>
         exfalso
         simp only [zAm,Bool.and_eq_true,beq_iff_eq] at hx
         obtain ⟨⟨⟨⟨⟨⟨e0,e1⟩,e2⟩,e3⟩,e4⟩,e5⟩,e6⟩:=hx
         have e6':B.a-A.a=0#16:=zPS e6
         have e7:B.a=A.a:=by
           have:=zJu A.a B.a
           rw [e6'] at this
           simpa using this.symm
         apply hAB
         have f0:=zEG ha.p0 hb.p0 e0
         have f1:=zEG ha.p1 hb.p1 e1
         have f2:=zEG ha.p2 hb.p2 e2
         have f3:=zEG ha.v0 hb.v0 e3
         have f4:=zEG ha.v1 hb.v1 e4
         have f5:=zEG ha.v2 hb.v2 e5
         cases A;cases B;simp_all
     have hc:zAK (⟨1,B.id,IntKind.i64.wrap (B.p0-A.p0),IntKind.i64.wrap (B.p1-A.p1),IntKind.i64.wrap (B.p2-A.p2),IntKind.i64.wrap (B.v0-A.v0),IntKind.i64.wrap (B.v1-A.v1),IntKind.i64.wrap (B.v2-A.v2),B.a-A.a⟩ : zW)=0:=by
       unfold zAK
       rw [hemp]
       dsimp only
       rw [if_neg (by omega),if_neg (by omega),if_neg (by simp)]
     rw [zDj heq h2]
     dsimp only
     refine ⟨?_,hc,rfl,by simp [hgg],by simp,rfl⟩
     rw [zBa hc (by simp [he]) (by simp)]
     simp only [zEL hb.p0,zEL hb.p1,zEL hb.p2,zEL hb.v0,zEL hb.v1,zEL hb.v2,zJu]
     rw [← he,← hgg]
   · have hgg : B.g = A.g + 1#8 := by
       rcases hg with h | h
       · exact absurd (by rw [h]) h2
       · exact h
     have hc:zAK (⟨3,B.id,B.p0,B.p1,B.p2,B.v0,B.v1,B.v2,B.a⟩ : zW)=0:=by
       unfold zAK
       dsimp only
       rw [if_neg (by omega),if_neg (by omega),if_neg (by omega)]
     rw [zDq heq h2]
     dsimp only
     refine ⟨?_,hc,rfl,?_,by simp,rfl⟩
     · rw [zBX hc (by simp [he]) rfl]
       rw [← he,← hgg]
     · exact ⟨λ_ e=>h2 (by rw [e]),λ_=>rfl⟩
theorem zQ6 {A B:zS} (h:(zAE A B).2=false):A=B:=by
 cases heq:zJf A B with
 | true=>exact zN0.1 heq
 | false =>
  by_cases h2:A.g.toNat=B.g.toNat
  ·rw [zDj heq h2] at h;cases h
  ·rw [zDq heq h2] at h;cases h
structure zd2 where
 k:Int
 m:BitVec 64
 e:BitVec 8
instance : Inhabited zd2:=⟨⟨0,0#64,0#8⟩⟩
theorem zAX {α:Type} {g:α→List Value} {size:Nat} (hg:∀ a,(g a).length=size):∀ (l:List α),(l.flatMap g).length=l.length*size
 | []=>by simp
 | a::l=>by rw [List.flatMap_cons,List.length_append,hg,zAX hg l,List.length_cons,Nat.add_mul];omega
theorem zAh {α:Type} [Inhabited α] {g:α→List Value} {size:Nat} (hg:∀ a,(g a).length=size):∀ (l:List α) (j:Nat),j<l.length→((l.flatMap g).drop (j*size)).take size=g (l.getD j default)
 | [],j,h=>by simp at h
 | a::l,0,_=>by
  simp only [Nat.zero_mul,List.drop_zero,List.flatMap_cons,List.getD_cons_zero]
  rw [← hg a,List.take_left']
  rfl
 | a::l,j+1,h=>by
  have ih:=zAh hg l j (by simpa using h)
  rw [List.flatMap_cons,show (j+1)*size=(g a).length+j*size by rw [hg,Nat.add_mul];omega,← List.drop_drop,List.drop_left',List.getD_cons_succ]
  ·exact ih
  ·rfl
theorem zDn {α:Type} [Inhabited α] {g:α→List Value} {size:Nat} (hg:∀ a,(g a).length=size) (l:List α) (j o:Nat) (h:j<l.length) (ho:o<size):(l.flatMap g)[j*size+o]? = (g (l.getD j default))[o]?:=by
 rw [← zAh hg l j h,List.getElem?_take,if_pos ho,List.getElem?_drop]
def Tr (bs:List zN) (u:Value) (p:Nat) (u':Value) (p':Nat):Prop:=∀ w' T,Rd w' T u 1 (bs.length-p) (zC (bs.drop p))→Rd w' T u' 1 (bs.length-p') (zC (bs.drop p'))
theorem Tr.refl {bs:List zN} {u:Value} {p:Nat}:Tr bs u p u p:=λ_ _ h=>h
theorem Tr.trans {bs:List zN} {u u2 u3:Value} {p p2 p3:Nat} (h:Tr bs u p u2 p2) (h2:Tr bs u2 p2 u3 p3):Tr bs u p u3 p3:=λw T h0=>h2 w T (h w T h0)
theorem Tr.cut {bs:List zN} {u:Value} {p k:Nat} (h:k≤bs.length-p):Tr bs u p (zF2 u 1 k (bs.length-p)) (p+k):=λw T h0=>by
 have:=h0.slcL (l:=k) h
 rwa [List.drop_drop,Nat.sub_sub] at this
theorem zUK {b:List zN} (h:b.length=0):(zCi b).2.2=5:=by rw [zCd h]
theorem zY6 {bs:List zN} {k:Nat} (h:(zCi (bs.drop k)).2.2≠5):¬ bs.length≤k:=λh2=>h (zUK (by simp only [List.length_drop];omega))
theorem zPw {bs:List zN} {X:BitVec 64} {R:Rs} (h:R.e=0) (h1:(zCi (bs.drop R.p)).2.2=0) (h2:(zCi (bs.drop R.p)).1.toNat≤X.toNat):zL bs X R=((zCi (bs.drop R.p)).1,⟨R.p+(zCi (bs.drop R.p)).2.1,0⟩):=by
 have hu:zJZ (bs.drop R.p) X=0:=by unfold zJZ;rw [if_neg (λh=>by omega)];exact h1
 exact zCr h (zY6 (by omega)) hu
theorem zO6 {bs:List zN} {R:Rs} (h:R.p≤bs.length):(zAA bs (zAA bs (zAA bs R).2).2).2.p≤bs.length∧R.p≤(zAA bs (zAA bs (zAA bs R).2).2).2.p∧(zAA bs (zAA bs (zAA bs R).2).2).2.p≤R.p+30:=zZB h
structure zDb {α:Type} (bs:List zN) (c:List zN) (f:Rs→α×Rs) (v:α):Prop where
 stay:∀ R,R.e=6→(f R).2.e=6
 good:∀ R n rest,R.e=0→R.p≤bs.length→bs.drop R.p=(c++rest).take n→c.length≤n→f R=(v,⟨R.p+c.length,0⟩)
 short:∀ R n rest,R.e=0→R.p≤bs.length→bs.drop R.p=(c++rest).take n→n<c.length→(f R).2.e=6
theorem zN5 {bs c rest:List zN} {p n:Nat} (h:bs.drop p=(c++rest).take n) (hn:c.length≤n) (hp:p≤bs.length):bs.drop (p+c.length)=rest.take (n-c.length)∧p+c.length≤bs.length:=by
 have h1:bs.drop (p+c.length)=(bs.drop p).drop c.length:=by rw [List.drop_drop]
 have h2:=congrArg List.length h
 simp only [List.length_drop,List.length_take,List.length_append] at h2
 refine ⟨?_,by omega⟩
 rw [h1,h,List.take_append,List.drop_append_of_le_length (by rw [List.length_take];omega),List.take_of_length_le hn,List.drop_length,List.nil_append]
theorem zDb.bind {α β:Type} {bs c d:List zN} {f:Rs→α×Rs} {g:α→Rs→β×Rs} {v:α} {u:β} (hf:zDb bs c f v) (hs:∀ x R,R.e=6→(g x R).2.e=6) (hg:zDb bs d (g v) u):zDb bs (c++d) (λR=>g (f R).1 (f R).2) u:=by
 refine ⟨λR h=>hs _ _ (hf.stay R h),λR n rest h0 hp hd hn=>?_,λR n rest h0 hp hd hn=>?_⟩
 ·rw [List.append_assoc] at hd
  rw [List.length_append] at hn
  have h1:=hf.good R n _ h0 hp hd (by omega)
  obtain ⟨h2,h3⟩:=zN5 hd (by omega) hp
  rw [h1]
  dsimp only
  rw [hg.good ⟨R.p+c.length,0⟩ (n-c.length) rest rfl h3 h2 (by omega),List.length_append]
  dsimp only
  rw [Nat.add_assoc]
 ·rw [List.append_assoc] at hd
  rw [List.length_append] at hn
  by_cases hc:c.length≤n
  ·have h1:=hf.good R n _ h0 hp hd hc
   obtain ⟨h2,h3⟩:=zN5 hd hc hp
   rw [h1]
   exact hg.short ⟨R.p+c.length,0⟩ (n-c.length) rest rfl h3 h2 (by omega)
  ·exact hs _ _ (hf.short R n _ h0 hp hd (by omega))
theorem zDb.pure {α:Type} {bs:List zN} (v:α):zDb bs [] (λR=>(v,R)) v:=by
 refine ⟨λR h=>h,λR n rest h0 hp hd hn=>?_,λR n rest h0 hp hd hn=>?_⟩
 · cases R;simp at h0;subst h0;rfl
 · simp at hn
theorem zCq {bs:List zN} {X L:BitVec 64} (h:X.toNat≤L.toNat):zDb bs (zBt X.toNat) (zL bs L) X:=by
 have hvp:=zB6 X.toNat
 have hl:(zBt X.toNat).length=zBe X.toNat:=rfl
 refine ⟨λR h=>by rw [zCY (by omega)];exact h,λR n rest h0 hp hd hn=>?_,λR n rest h0 hp hd hn=>?_⟩
 · have hd2:bs.drop R.p=zBt X.toNat++rest.take (n-(zBt X.toNat).length):=by rw [hd,List.take_append,List.take_of_length_le hn]
   have hg:=zVi X (rest.take (n-(zBt X.toNat).length))
   rw [← hd2] at hg
   rw [zPw h0 (by rw [hg]) (by rw [hg];exact h),hg]
   rfl
 · have hd2:bs.drop R.p=(zBt X.toNat).take n:=by rw [hd,List.take_append,show n-(zBt X.toNat).length=0 by omega];simp
   by_cases h1:bs.length≤R.p
   · rw [zCK h0 h1]
   · have hn0 : 1 ≤ n := by
       have:=congrArg List.length hd2
       simp only [List.length_drop,List.length_take] at this
       omega
     have hg:=zRx X n hn0 (by omega)
     rw [← hd2] at hg
     have hu:zJZ (bs.drop R.p) L=6:=by unfold zJZ;rw [hg];simp
     rw [zDU h0 h1 (by omega),hu]
theorem zHe {bs:List zN} {c:zN}:zDb bs [c] (zH bs) c:=by
 refine ⟨λR h=>by rw [zDY (by omega)];exact h,λR n rest h0 hp hd hn=>?_,λR n rest h0 hp hd hn=>?_⟩
 · have hd2 : bs.drop R.p = c :: rest.take (n - 1) := by
     rw [hd]
     simp only [List.length_singleton] at hn
     rw [show n=(n-1)+1 by omega]
     simp
   have hl:=congrArg List.length hd2
   simp only [List.length_drop,List.length_cons] at hl
   have hg:bs.getD R.p 0=c:=by
     have:=congrArg (λl:List zN=>l.getD 0 0) hd2
     simpa [List.getD_eq_getElem?_getD] using this
   rw [zDO h0 (by omega),hg]
   rfl
 · simp only [List.length_singleton] at hn
   have hn0:n=0:=by omega
   subst hn0
   have hl:=congrArg List.length hd
   simp at hl
   rw [zCw h0 (by omega)]
theorem zDB {bs:List zN} {x:Int} (h : -9223372036854775808≤x∧x≤9223372036854775807):zDb bs (zCf x) (zAA bs) x:=by
 have ht:=zCq (bs:=bs) (X:=zFE x) (L:=18446744073709551615#64) (by have:=(zFE x).isLt;have h2:(18446744073709551615#64).toNat=18446744073709551615:=rfl;omega)
 refine ⟨λR h=>ht.stay R h,λR n rest h0 hp hd hn=>?_,λR n rest h0 hp hd hn=>ht.short R n rest h0 hp hd hn⟩
 have:=ht.good R n rest h0 hp hd hn
 unfold zAA
 rw [this,zaS x h]
 rfl
theorem zD8 {e:Nat} {R:Rs} (h:R.e=6):(zBh e R).e=6:=by unfold zBh;rw [if_neg (by omega)];exact h
theorem zBz {bs:List zN} {m:BitVec 8} {i:Nat} {R:Rs} (h:R.e=6):(upI bs m i R).2.e=6:=by
 have h1:=(zM0 (bs:=bs) (R:=R) (by omega)).2.1
 unfold upI
 split
 ·dsimp only
  split
  ·exact zD8 (by omega)
  ·omega
 ·exact h
theorem zFM {bs:List zN} {m:BitVec 8} {R:Rs} (h:R.e=6):(upA bs m R).2.e=6:=by
 have h1:=(zJn (bs:=bs) (X:=65535#64) (R:=R) (by omega)).2.1
 unfold upA
 split
 ·dsimp only
  split
  ·exact zD8 (by omega)
  ·omega
 ·exact h
def upC (r:zW) (i:Nat):List zN:=if r.num i=0 then [] else zCf (r.num i)
theorem zV3 {bs:List zN} {m:BitVec 8} {r:zW} {i:Nat} (hm:zAn m i=true↔r.num i≠0) (h : -9223372036854775808≤r.num i∧r.num i≤9223372036854775807):zDb bs (upC r i) (upI bs m i) (r.num i):=by
 by_cases h0:r.num i=0
 · have hb : zAn m i = false := by
     cases hb:zAn m i with
     | false=>rfl
     | true=>exact absurd h0 (hm.1 hb)
   have:upI bs m i=λR=>(0,R):=by
     funext R
     unfold upI
     rw [if_neg (by rw [hb];decide)]
   rw [this,upC,if_pos h0,h0]
   exact zDb.pure 0
 · have hb:=hm.2 h0
   have ht:=zDB (bs:=bs) h
   rw [upC,if_neg h0]
   refine ⟨λR h=>zBz h,λR n rest h1 hp hd hn=>?_,λR n rest h1 hp hd hn=>?_⟩
   · have:=ht.good R n rest h1 hp hd hn
     unfold upI
     rw [if_pos hb,this]
     dsimp only
     rw [if_neg h0]
   · have:=ht.short R n rest h1 hp hd hn
     unfold upI
     rw [if_pos hb]
     dsimp only
     split
     · exact zD8 this
     · exact this
theorem zYP {bs:List zN} {a:BitVec 16}:zDb bs (zBt a.toNat) (λR=>((zL bs 65535#64 R).1.setWidth 16,(zL bs 65535#64 R).2)) a:=by
 have ht:=zCq (bs:=bs) (X:=a.setWidth 64) (L:=65535#64) (by rw [zXB];have:=a.isLt;have h2:(65535#64).toNat=65535:=rfl;omega)
 rw [zXB] at ht
 refine ⟨λR h=>ht.stay R h,λR n rest h0 hp hd hn=>?_,λR n rest h0 hp hd hn=>ht.short R n rest h0 hp hd hn⟩
 have:=ht.good R n rest h0 hp hd hn
 rw [this]
 dsimp only
 congr 1
 apply BitVec.eq_of_toNat_eq
 simp
theorem zQx {bs:List zN} {m:BitVec 8} {a:BitVec 16} (hm:zAn m 6=true↔a≠0#16):zDb bs (if a=0#16 then [] else zBt a.toNat) (upA bs m) a:=by
 by_cases h0:a=0#16
 · have hb : zAn m 6 = false := by
     cases hb:zAn m 6 with
     | false=>rfl
     | true=>exact absurd h0 (hm.1 hb)
   have:upA bs m=λR=>(0#16,R):=by
     funext R
     unfold upA
     rw [if_neg (by rw [hb];decide)]
   rw [this,if_pos h0,h0]
   exact zDb.pure _
 · have hb:=hm.2 h0
   rw [if_neg h0]
   have ht:=zCq (bs:=bs) (X:=a.setWidth 64) (L:=65535#64) (by rw [zXB];have:=a.isLt;have h2:(65535#64).toNat=65535:=rfl;omega)
   rw [zXB] at ht
   have hne:a.setWidth 64≠0#64:=λe=>h0 (BitVec.eq_of_toNat_eq (by rw [← zXB a,e];rfl))
   refine ⟨λR h=>zFM h,λR n rest h1 hp hd hn=>?_,λR n rest h1 hp hd hn=>?_⟩
   · have:=ht.good R n rest h1 hp hd hn
     unfold upA
     rw [if_pos hb,this]
     dsimp only
     rw [if_neg hne]
     congr 1
     apply BitVec.eq_of_toNat_eq
     simp
   · have:=ht.short R n rest h1 hp hd hn
     unfold upA
     rw [if_pos hb]
     dsimp only
     split
     · exact zD8 this
     · exact this
def zEn (b0 b1 b2 b3 b4 b5 b6:Bool):BitVec 8 :=
 let m0:=bif b0 then 0#8|||(1#8<<<0) else 0#8
 let m1:=bif b1 then m0|||(1#8<<<1) else m0
 let m2:=bif b2 then m1|||(1#8<<<2) else m1
 let m3:=bif b3 then m2|||(1#8<<<3) else m2
 let m4:=bif b4 then m3|||(1#8<<<4) else m3
 let m5:=bif b5 then m4|||(1#8<<<5) else m4
 bif b6 then m5|||64#8 else m5
theorem zZA {α:Type} {p:Prop} [Decidable p] (x y:α):(if p then x else y)=bif decide (¬ p) then y else x:=by by_cases h:p<;>simp [h]
theorem zSE (r:zW):zCH r=zEn (decide (r.p0≠0)) (decide (r.p1≠0)) (decide (r.p2≠0)) (decide (r.v0≠0)) (decide (r.v1≠0)) (decide (r.v2≠0)) (decide (r.a≠0#16)):=by
 simp only [zCH,zA1,zW.num,zEn,zZA]
theorem zNT : ∀ b0 b1 b2 b3 b4 b5 b6:Bool,zAn (zEn b0 b1 b2 b3 b4 b5 b6) 0=b0∧zAn (zEn b0 b1 b2 b3 b4 b5 b6) 1=b1∧zAn (zEn b0 b1 b2 b3 b4 b5 b6) 2=b2∧zAn (zEn b0 b1 b2 b3 b4 b5 b6) 3=b3∧zAn (zEn b0 b1 b2 b3 b4 b5 b6) 4=b4∧zAn (zEn b0 b1 b2 b3 b4 b5 b6) 5=b5∧zAn (zEn b0 b1 b2 b3 b4 b5 b6) 6=b6∧(zEn b0 b1 b2 b3 b4 b5 b6).toNat≤127∧((zEn b0 b1 b2 b3 b4 b5 b6).toNat=0→b0=false∧b1=false∧b2=false∧b3=false∧b4=false∧b5=false∧b6=false):=by
 intro b0 b1 b2 b3 b4 b5 b6
 cases b0<;>cases b1<;>cases b2<;>cases b3<;>cases b4<;>cases b5<;>cases b6<;>exact ⟨by decide,by decide,by decide,by decide,by decide,by decide,by decide,by decide,by decide⟩
theorem zN3 : ∀ q:BitVec 8,q.toNat≤127→zEn (zAn q 0) (zAn q 1) (zAn q 2) (zAn q 3) (zAn q 4) (zAn q 5) (zAn q 6)=q:=by decide +kernel
theorem zTf (r:zW):(∀ i,i<6→(zAn (zCH r) i=true↔r.num i≠0))∧(zAn (zCH r) 6=true↔r.a≠0#16)∧(zCH r).toNat≤127∧((zCH r).toNat=0→zAm r=true):=by
 have h:=zNT (decide (r.p0≠0)) (decide (r.p1≠0)) (decide (r.p2≠0)) (decide (r.v0≠0)) (decide (r.v1≠0)) (decide (r.v2≠0)) (decide (r.a≠0#16))
 rw [← zSE] at h
 obtain ⟨h0,h1,h2,h3,h4,h5,h6,h7,h8⟩:=h
 refine ⟨λi hi=>?_,by rw [h6,decide_eq_true_iff],h7,λhz=>?_⟩
 ·match i,hi with
  | 0,_=>rw [h0,decide_eq_true_iff];rfl
  | 1,_=>rw [h1,decide_eq_true_iff];rfl
  | 2,_=>rw [h2,decide_eq_true_iff];rfl
  | 3,_=>rw [h3,decide_eq_true_iff];rfl
  | 4,_=>rw [h4,decide_eq_true_iff];rfl
  | 5,_=>rw [h5,decide_eq_true_iff];rfl
 ·obtain ⟨e0,e1,e2,e3,e4,e5,e6⟩:=h8 hz
  simp only [decide_eq_false_iff_not,ne_eq,Decidable.not_not] at e0 e1 e2 e3 e4 e5 e6
  simp [zAm,e0,e1,e2,e3,e4,e5,e6]
theorem zW.wf.num {r:zW} (h:r.wf) (i:Nat) : -9223372036854775808≤r.num i∧r.num i≤9223372036854775807:=by
 match i with
 | 0=>exact h.p0
 | 1=>exact h.p1
 | 2=>exact h.p2
 | 3=>exact h.v0
 | 4=>exact h.v1
 | _+5=>exact h.v2
theorem zAv {bs:List zN} {R:Rs} (h:R.e=6):(zAA bs R).2.e=6:=by have:=(zM0 (bs:=bs) (R:=R) (by omega)).2.1;omega
theorem zDr {bs:List zN} {X:BitVec 64} {R:Rs} (h:R.e=6):(zL bs X R).2.e=6:=by have:=(zJn (bs:=bs) (X:=X) (R:=R) (by omega)).2.1;omega
theorem zMT {bs:List zN} {R:Rs} (h:R.e=6):(zH bs R).2.e=6:=by have:=(zQZ (bs:=bs) (R:=R) (by omega)).2.1;omega
theorem zST {bs:List zN} {r:zW} (hw:r.wf):zDb bs (zBK r) (zBW bs r.k r.id) r:=by
 have h6:=(zYP (bs:=bs) (a:=r.a)).bind (g:=λx R=>((⟨r.k,r.id,r.p0,r.p1,r.p2,r.v0,r.v1,r.v2,x⟩ : zW),R)) (λx R h=>h) (zDb.pure _)
 have h5:=(zDB (bs:=bs) hw.v2).bind (g:=λx R=>((⟨r.k,r.id,r.p0,r.p1,r.p2,r.v0,r.v1,x,(zL bs 65535#64 R).1.setWidth 16⟩ : zW),(zL bs 65535#64 R).2)) (λx R h=>zDr h) h6
 have h4:=(zDB (bs:=bs) hw.v1).bind (g:=λx R=>((⟨r.k,r.id,r.p0,r.p1,r.p2,r.v0,x,(zAA bs R).1,(zL bs 65535#64 (zAA bs R).2).1.setWidth 16⟩ : zW),(zL bs 65535#64 (zAA bs R).2).2)) (λx R h=>zDr (zAv h)) h5
 have h3:=(zDB (bs:=bs) hw.v0).bind (g:=λx R=>((⟨r.k,r.id,r.p0,r.p1,r.p2,x,(zAA bs R).1,(zAA bs (zAA bs R).2).1,(zL bs 65535#64 (zAA bs (zAA bs R).2).2).1.setWidth 16⟩ : zW),(zL bs 65535#64 (zAA bs (zAA bs R).2).2).2)) (λx R h=>zDr (zAv (zAv h))) h4
 have h2:=(zDB (bs:=bs) hw.p2).bind (g:=λx R=>((⟨r.k,r.id,r.p0,r.p1,x,(zAA bs R).1,(zAA bs (zAA bs R).2).1,(zAA bs (zAA bs (zAA bs R).2).2).1,(zL bs 65535#64 (zAA bs (zAA bs (zAA bs R).2).2).2).1.setWidth 16⟩ : zW),(zL bs 65535#64 (zAA bs (zAA bs (zAA bs R).2).2).2).2)) (λx R h=>zDr (zAv (zAv (zAv h)))) h3
 have h1:=(zDB (bs:=bs) hw.p1).bind (g:=λx R=>((⟨r.k,r.id,r.p0,x,(zAA bs R).1,(zAA bs (zAA bs R).2).1,(zAA bs (zAA bs (zAA bs R).2).2).1,(zAA bs (zAA bs (zAA bs (zAA bs R).2).2).2).1,(zL bs 65535#64 (zAA bs (zAA bs (zAA bs (zAA bs R).2).2).2).2).1.setWidth 16⟩ : zW),(zL bs 65535#64 (zAA bs (zAA bs (zAA bs (zAA bs R).2).2).2).2).2)) (λx R h=>zDr (zAv (zAv (zAv (zAv h))))) h2
 have h0:=(zDB (bs:=bs) hw.p0).bind (g:=λx R=>((⟨r.k,r.id,x,(zAA bs R).1,(zAA bs (zAA bs R).2).1,(zAA bs (zAA bs (zAA bs R).2).2).1,(zAA bs (zAA bs (zAA bs (zAA bs R).2).2).2).1,(zAA bs (zAA bs (zAA bs (zAA bs (zAA bs R).2).2).2).2).1,(zL bs 65535#64 (zAA bs (zAA bs (zAA bs (zAA bs (zAA bs R).2).2).2).2).2).1.setWidth 16⟩ : zW),(zL bs 65535#64 (zAA bs (zAA bs (zAA bs (zAA bs (zAA bs R).2).2).2).2).2).2)) (λx R h=>zDr (zAv (zAv (zAv (zAv (zAv h)))))) h1
 have e:zBW bs r.k r.id=λR=>((⟨r.k,r.id,(zAA bs R).1,(zAA bs (zAA bs R).2).1,(zAA bs (zAA bs (zAA bs R).2).2).1,(zAA bs (zAA bs (zAA bs (zAA bs R).2).2).2).1,(zAA bs (zAA bs (zAA bs (zAA bs (zAA bs R).2).2).2).2).1,(zAA bs (zAA bs (zAA bs (zAA bs (zAA bs (zAA bs R).2).2).2).2).2).1,(zL bs 65535#64 (zAA bs (zAA bs (zAA bs (zAA bs (zAA bs (zAA bs R).2).2).2).2).2).2).1.setWidth 16⟩ : zW),(zL bs 65535#64 (zAA bs (zAA bs (zAA bs (zAA bs (zAA bs (zAA bs R).2).2).2).2).2).2).2):=by
  funext R
  simp only [zBW,nX,nS]
 rw [e]
 simpa [zBK,List.append_assoc] using h0
theorem zRz {bs:List zN} {m:BitVec 8} {R:Rs} (h:R.e=6):∀ i,(upS bs m R i).e=6
 | 0=>h
 | i+1=>zBz (zRz h i)
def zN9 (bs:List zN) (k id:Int) (m:BitVec 8) (R:Rs):zW×Rs :=
 if m.toNat=0∨127<m.toNat then (⟨k,id,0,0,0,0,0,0,0#16⟩,zBh 7 R)
 else (⟨k,id,upX bs m R 0,upX bs m R 1,upX bs m R 2,upX bs m R 3,upX bs m R 4,upX bs m R 5,(upA bs m (upS bs m R 6)).1⟩,(upA bs m (upS bs m R 6)).2)
theorem zJr (bs:List zN) (k id:Int):zAj bs k id=λR=>zN9 bs k id (zH bs R).1 (zH bs R).2:=by
 funext R
 unfold zAj zN9
 rfl
theorem zMK {bs:List zN} {k id:Int} {m:BitVec 8} {R:Rs} (h:R.e=6):(zN9 bs k id m R).2.e=6:=by
 unfold zN9
 split
 · exact zD8 h
 · exact zFM (zRz h 6)
theorem zK7 (r:zW):zAg r 6=upC r 0++(upC r 1++(upC r 2++(upC r 3++(upC r 4++upC r 5)))):=by
 have h:∀ i,zAg r (i+1)=zAg r i++upC r i:=λi=>by
  show (if r.num i=0 then _ else _)=_
  unfold upC
  split<;>simp
 rw [h 5,h 4,h 3,h 2,h 1,h 0]
 simp [zAg]
def upW (r:zW):List zN:=if r.a=0#16 then [] else zBt r.a.toNat
theorem zKF (r:zW):zBD r=[zCH r]++(upC r 0++(upC r 1++(upC r 2++(upC r 3++(upC r 4++(upC r 5++upW r)))))):=by
 unfold zBD zHH upW
 rw [zK7]
 split<;>simp
theorem zQm {bs:List zN} {r:zW} (hw:r.wf) (hne:zAm r=false):zDb bs (zBD r) (zAj bs r.k r.id) r:=by
 obtain ⟨hb,h6,h7,h8⟩:=zTf r
 have hm0:¬ ((zCH r).toNat=0∨127<(zCH r).toNat):=by
  rintro (h | h)
  ·rw [h8 h] at hne;cases hne
  ·omega
 rw [zKF,zJr]
 refine zHe.bind (g:=λm R=>zN9 bs r.k r.id m R) (λx R h=>zMK h) ?_
 generalize hM:zCH r=m at *
 have e:(λR=>zN9 bs r.k r.id m R)=λR=>(⟨r.k,r.id,(upI bs m 0 R).1,(upI bs m 1 (upI bs m 0 R).2).1,(upI bs m 2 (upI bs m 1 (upI bs m 0 R).2).2).1,(upI bs m 3 (upI bs m 2 (upI bs m 1 (upI bs m 0 R).2).2).2).1,(upI bs m 4 (upI bs m 3 (upI bs m 2 (upI bs m 1 (upI bs m 0 R).2).2).2).2).1,(upI bs m 5 (upI bs m 4 (upI bs m 3 (upI bs m 2 (upI bs m 1 (upI bs m 0 R).2).2).2).2).2).1,(upA bs m (upI bs m 5 (upI bs m 4 (upI bs m 3 (upI bs m 2 (upI bs m 1 (upI bs m 0 R).2).2).2).2).2).2).1⟩,(upA bs m (upI bs m 5 (upI bs m 4 (upI bs m 3 (upI bs m 2 (upI bs m 1 (upI bs m 0 R).2).2).2).2).2).2).2):=by
  funext R
  unfold zN9
  rw [if_neg hm0]
  rfl
 rw [e]
 have hn:=λi hi=>zV3 (bs:=bs) (hb i hi) (hw.num i)
 have q6:=(zQx (bs:=bs) h6).bind (g:=λx R=>((⟨r.k,r.id,r.p0,r.p1,r.p2,r.v0,r.v1,r.v2,x⟩ : zW),R)) (λx R h=>h) (zDb.pure _)
 have q5:=(hn 5 (by omega)).bind (g:=λx R=>((⟨r.k,r.id,r.p0,r.p1,r.p2,r.v0,r.v1,x,(upA bs m R).1⟩ : zW),(upA bs m R).2)) (λx R h=>zFM h) q6
 have q4:=(hn 4 (by omega)).bind (g:=λx R=>((⟨r.k,r.id,r.p0,r.p1,r.p2,r.v0,x,(upI bs m 5 R).1,(upA bs m (upI bs m 5 R).2).1⟩ : zW),(upA bs m (upI bs m 5 R).2).2)) (λx R h=>zFM (zBz h)) q5
 have q3:=(hn 3 (by omega)).bind (g:=λx R=>((⟨r.k,r.id,r.p0,r.p1,r.p2,x,(upI bs m 4 R).1,(upI bs m 5 (upI bs m 4 R).2).1,(upA bs m (upI bs m 5 (upI bs m 4 R).2).2).1⟩ : zW),(upA bs m (upI bs m 5 (upI bs m 4 R).2).2).2)) (λx R h=>zFM (zBz (zBz h))) q4
 have q2:=(hn 2 (by omega)).bind (g:=λx R=>((⟨r.k,r.id,r.p0,r.p1,x,(upI bs m 3 R).1,(upI bs m 4 (upI bs m 3 R).2).1,(upI bs m 5 (upI bs m 4 (upI bs m 3 R).2).2).1,(upA bs m (upI bs m 5 (upI bs m 4 (upI bs m 3 R).2).2).2).1⟩ : zW),(upA bs m (upI bs m 5 (upI bs m 4 (upI bs m 3 R).2).2).2).2)) (λx R h=>zFM (zBz (zBz (zBz h)))) q3
 have q1:=(hn 1 (by omega)).bind (g:=λx R=>((⟨r.k,r.id,r.p0,x,(upI bs m 2 R).1,(upI bs m 3 (upI bs m 2 R).2).1,(upI bs m 4 (upI bs m 3 (upI bs m 2 R).2).2).1,(upI bs m 5 (upI bs m 4 (upI bs m 3 (upI bs m 2 R).2).2).2).1,(upA bs m (upI bs m 5 (upI bs m 4 (upI bs m 3 (upI bs m 2 R).2).2).2).2).1⟩ : zW),(upA bs m (upI bs m 5 (upI bs m 4 (upI bs m 3 (upI bs m 2 R).2).2).2).2).2)) (λx R h=>zFM (zBz (zBz (zBz (zBz h))))) q2
 have q0:=(hn 0 (by omega)).bind (g:=λx R=>((⟨r.k,r.id,x,(upI bs m 1 R).1,(upI bs m 2 (upI bs m 1 R).2).1,(upI bs m 3 (upI bs m 2 (upI bs m 1 R).2).2).1,(upI bs m 4 (upI bs m 3 (upI bs m 2 (upI bs m 1 R).2).2).2).1,(upI bs m 5 (upI bs m 4 (upI bs m 3 (upI bs m 2 (upI bs m 1 R).2).2).2).2).1,(upA bs m (upI bs m 5 (upI bs m 4 (upI bs m 3 (upI bs m 2 (upI bs m 1 R).2).2).2).2).2).1⟩ : zW),(upA bs m (upI bs m 5 (upI bs m 4 (upI bs m 3 (upI bs m 2 (upI bs m 1 R).2).2).2).2).2).2)) (λx R h=>zFM (zBz (zBz (zBz (zBz (zBz h)))))) q1
 simpa [upW,zW.num] using q0
theorem zJq {r:zW} (h:zAm r=true):r=⟨r.k,r.id,0,0,0,0,0,0,0#16⟩:=by
 simp only [zAm,Bool.and_eq_true,beq_iff_eq] at h
 obtain ⟨⟨⟨⟨⟨⟨e0,e1⟩,e2⟩,e3⟩,e4⟩,e5⟩,e6⟩:=h
 have e6':=zPS e6
 cases r
 simp_all
theorem zEz {r:zW} (h:zAK r=0):0≤r.k∧r.k≤3∧0≤r.id∧r.id≤65535∧(r.k=1→zAm r=false)∧(r.k=2→zAm r=true):=by
 unfold zAK at h
 split at h
 ·cases h
 ·split at h
  ·cases h
  ·split at h
   ·cases h
   ·rename_i h1 h2 h3
    refine ⟨by omega,by omega,by omega,by omega,λhk=>?_,λhk=>?_⟩
    ·cases he:zAm r with
     | false=>rfl
     | true=>exact absurd (.inl ⟨hk,he⟩) h3
    ·cases he:zAm r with
     | true=>rfl
     | false=>exact absurd (.inr ⟨hk,he⟩) h3
theorem zSB {bs:List zN} {k id:Int} {R:Rs} (h:R.e=6):(zBW bs k id R).2.e=6:=by
 simp only [zBW,nS]
 exact zDr (zAv (zAv (zAv (zAv (zAv (zAv h))))))
theorem zJt {bs:List zN} {k id:Int} {R:Rs} (h:R.e=6):(zBB bs k id R).2.e=6:=by
 unfold zBB
 split
 ·exact zSB h
 ·split
  ·rw [zJr];exact zMK (zMT h)
  ·split
   ·exact h
   ·exact zD8 h
theorem zP7 {bs:List zN} {r:zW} (hw:r.wf) (hc:zAK r=0):zDb bs (zCn r) (zBB bs r.k r.id) r:=by
 obtain ⟨h1,h2,h3,h4,h5,h6⟩:=zEz hc
 by_cases hk1:r.k=1
 · have:zBB bs r.k r.id=zAj bs r.k r.id:=by funext R;exact zGM hk1
   rw [this,zCn,if_pos hk1]
   exact zQm hw (h5 hk1)
 · by_cases hk2:r.k=2
   · have : zBB bs r.k r.id = fun R => (r, R) := by
       funext R
       rw [zGG hk2]
       exact congrArg (·,R) (zJq (h6 hk2)).symm
     rw [this,zCn,if_neg hk1,if_pos hk2]
     exact zDb.pure r
   · have:zBB bs r.k r.id=zBW bs r.k r.id:=by funext R;exact zFu (by omega)
     rw [this,zCn,if_neg hk1,if_neg hk2]
     exact zST hw
theorem zHw {r:zW} {last:Int} (h:zAt r last=0):zAK r=0 ∧ -1≤last∧last≤65535∧last<r.id:=by
 unfold zAt at h
 split at h
 ·omega
 ·split at h
  ·cases h
  ·split at h
   ·cases h
   ·omega
theorem zTN {bs:List zN} {r:zW} {last:Int} (hw:r.wf) (he:zAt r last=0):zDb bs (zCb r last) (zD4 bs last) r:=by
 obtain ⟨hc,h1,h2,h3⟩:=zHw he
 obtain ⟨c1,c2,c3,c4,_,_⟩:=zEz hc
 have hX:(((BitVec.ofInt 64 (r.id-last-1)).toNat:Nat):Int)=r.id-last-1:=zCu (by omega) (by omega)
 have hL:(((BitVec.ofInt 64 (65534-last)).toNat:Nat):Int)=65534-last:=zCu (by omega) (by omega)
 have hk:(((BitVec.ofInt 8 r.k).toNat:Nat):Int)=r.k:=by rw [BitVec.toNat_ofInt];omega
 rw [zCb,if_neg (by omega),zAa,List.append_assoc]
 have q2:=zP7 (bs:=bs) hw hc
 have e2:zBB bs r.k r.id=(λ(x:zN) R=>zBB bs (((x.toNat:Nat):Int)) (last+1+(((BitVec.ofInt 64 (r.id-last-1)).toNat:Nat):Int)) R) (BitVec.ofInt 8 r.k):=by
  funext R
  dsimp only
  rw [hk,hX,show last+1+(r.id-last-1)=r.id by omega]
 rw [e2] at q2
 have q1:=(zHe (bs:=bs) (c:=BitVec.ofInt 8 r.k)).bind (g:=λ(x:zN) R=>zBB bs ((x.toNat:Nat):Int) (last+1+(((BitVec.ofInt 64 (r.id-last-1)).toNat:Nat):Int)) R) (λx R h=>zJt h) q2
 have q0:=(zCq (bs:=bs) (X:=BitVec.ofInt 64 (r.id-last-1)) (L:=BitVec.ofInt 64 (65534-last)) (by omega)).bind
  (g:=λX R=>zBB bs (((zH bs R).1.toNat:Nat):Int) (last+1+((X.toNat:Nat):Int)) (zH bs R).2) (λx R h=>zJt (zMT h)) q1
 exact q0
theorem zYR {bs rest : List zN} {r : zW} {last : Int} {p n : Nat} (hw : r.wf) (he : zAt r last = 0) (hp : p ≤ bs.length) (hd : bs.drop p = (zCb r last ++ rest).take n) :
   ((zCb r last).length≤n→zAF bs last ⟨p,0⟩=(r,0,⟨p+(zCb r last).length,0⟩))∧(n<(zCb r last).length→(zAF bs last ⟨p,0⟩).1=zOb∧(zAF bs last ⟨p,0⟩).2.1=6):=by
 have ht:=zTN (bs:=bs) hw he
 obtain ⟨hc,h1,h2,h3⟩:=zHw he
 obtain ⟨c1,c2,c3,c4,_,_⟩:=zEz hc
 refine ⟨λhn=>?_,λhn=>?_⟩
 · exact zFS (by omega) (by omega) (ht.good ⟨p,0⟩ n rest rfl hp hd hn) rfl
 · have h6:=ht.short ⟨p,0⟩ n rest rfl hp hd hn
   rw [zEO (rr:=(zD4 bs last ⟨p,0⟩).1) (RR:=(zD4 bs last ⟨p,0⟩).2) (by omega) (by omega) rfl (by omega)]
   exact ⟨rfl,h6⟩
theorem zZo {bs rest:List zN} {r:zW} {last:Int} {p:Nat} (hw:r.wf) (he:zAt r last=0) (hp:p≤bs.length) (hd:bs.drop p=zCb r last++rest):zAF bs last ⟨p,0⟩=(r,0,⟨p+(zCb r last).length,0⟩) :=
 (zYR (n:=(zCb r last++rest).length) hw he hp (by rw [List.take_length];exact hd)).1 (by simp)
def zcT {α:Type} (bs:List zN) (f:Rs→α×Rs) (enc:α→List zN):Prop :=
 ∀ R,R.p≤bs.length→(f R).2.e=0→R.e=0∧bs.drop R.p=enc (f R).1++bs.drop (f R).2.p∧(f R).2.p=R.p+(enc (f R).1).length∧(f R).2.p≤bs.length
theorem zDm {bs:List zN} {L:BitVec 64}:zcT bs (zL bs L) (λX=>zBt X.toNat):=by
 intro R hp h
 by_cases h0:R.e=0
 ·by_cases h1:bs.length≤R.p
  ·rw [zCK h0 h1] at h;cases h
  ·by_cases h2:zJZ (bs.drop R.p) L=0
   ·rw [zCr h0 h1 h2]
    dsimp only
    obtain ⟨k1,k2,k3⟩:=zF6 (zKV h2).1
    simp only [List.length_drop] at k2
    refine ⟨h0,?_,?_,by omega⟩
    ·rw [k3,← List.drop_drop,List.take_append_drop]
    ·rw [k3,List.length_take,List.length_drop];omega
   ·rw [zDU h0 h1 h2] at h;exact absurd h h2
 ·rw [zCY h0] at h;exact absurd h h0
theorem zKx {bs:List zN}:zcT bs (zAA bs) zCf:=by
 intro R hp h
 have:=zDm R hp (show (zL bs 18446744073709551615#64 R).2.e=0 from h)
 unfold zAA zCf
 dsimp only
 rw [zYm]
 exact this
theorem zIv {bs:List zN}:zcT bs (zH bs) (λc=>[c]):=by
 intro R hp h
 by_cases h0:R.e=0
 ·by_cases h1:bs.length≤R.p
  ·rw [zCw h0 h1] at h;cases h
  ·rw [zDO h0 h1]
   dsimp only
   refine ⟨h0,?_,rfl,by omega⟩
   rw [List.getD_eq_getElem?_getD,List.getElem?_eq_getElem (by omega),Option.getD_some,List.singleton_append]
   exact List.drop_eq_getElem_cons (by omega)
 ·rw [zDY h0] at h;exact absurd h h0
theorem zEa {e:Nat} {R:Rs} (h:(zBh e R).e=0) (he:e≠0):False:=by
 unfold zBh at h
 split at h
 · exact he h
 · rename_i h0;exact h0 h
def zQs (m:BitVec 8) (i:Nat) (x:Int):List zN:=if zAn m i=true then zCf x else []
theorem zVE {bs:List zN} {m:BitVec 8} {i:Nat}:zcT bs (upI bs m i) (zQs m i):=by
 intro R hp h
 unfold upI zQs at *
 by_cases hb:zAn m i=true
 ·simp only [if_pos hb] at h ⊢
  by_cases h0:(zAA bs R).1=0
  ·rw [if_pos h0] at h;exact absurd h λh=>zEa h (by decide)
  ·rw [if_neg h0] at h ⊢
   exact zKx R hp h
 ·simp only [if_neg hb] at h ⊢
  exact ⟨h,by simp,by simp,hp⟩
theorem zHQ {bs:List zN} {m:BitVec 8} {i:Nat} {R:Rs} (h:(upI bs m i R).2.e=0):(zAn m i=true↔(upI bs m i R).1≠0) ∧ -9223372036854775808≤(upI bs m i R).1∧(upI bs m i R).1≤9223372036854775807:=by
 have hz : -9223372036854775808≤(zAA bs R).1∧(zAA bs R).1≤9223372036854775807:=zE4 _
 unfold upI at *
 by_cases hb:zAn m i=true
 ·simp only [if_pos hb] at h ⊢
  by_cases h0:(zAA bs R).1=0
  ·rw [if_pos h0] at h;exact absurd h λh=>zEa h (by decide)
  ·exact ⟨⟨λ_=>h0,λ_=>hb⟩,hz⟩
 ·simp only [if_neg hb]
  exact ⟨⟨λh=>absurd h hb,λh=>absurd rfl h⟩,by decide,by decide⟩
theorem zW4 {bs:List zN} {m:BitVec 8}:zcT bs (upA bs m) (λx=>if zAn m 6=true then zBt x.toNat else []):=by
 intro R hp h
 have hle:=(zAl (X:=65535#64) hp).2.2.2.1
 unfold upA at *
 by_cases hb:zAn m 6=true
 ·simp only [if_pos hb] at h ⊢
  by_cases h0:(zL bs 65535#64 R).1=0#64
  ·rw [if_pos h0] at h;exact absurd h λh=>zEa h (by decide)
  ·rw [if_neg h0] at h ⊢
   have:=zDm R hp h
   dsimp only at this
   rwa [zct (by have h2:(65535#64).toNat=65535:=rfl;omega)]
 ·simp only [if_neg hb] at h ⊢
  exact ⟨h,by simp,by simp,hp⟩
theorem zaj {bs:List zN} {m:BitVec 8} {R:Rs} (hp:R.p≤bs.length) (h:(upA bs m R).2.e=0):zAn m 6=true↔(upA bs m R).1≠0#16:=by
 have hle:=(zAl (X:=65535#64) hp).2.2.2.1
 unfold upA at *
 by_cases hb:zAn m 6=true
 ·simp only [if_pos hb] at h ⊢
  by_cases h0:(zL bs 65535#64 R).1=0#64
  ·rw [if_pos h0] at h;exact absurd h λh=>zEa h (by decide)
  ·refine ⟨λ_ e=>h0 (BitVec.eq_of_toNat_eq ?_),λ_=>hb⟩
   have:=zct (X:=(zL bs 65535#64 R).1) (by have h2:(65535#64).toNat=65535:=rfl;omega)
   rw [e] at this
   exact this.symm
 ·simp only [if_neg hb]
  exact ⟨λh=>absurd h hb,λh=>absurd rfl h⟩
theorem zKC {bs : List zN} {R : Rs} (hp : R.p ≤ bs.length) (i j : Nat) (hj : j = i + 1) (h : (nS bs R j).e = 0) :
   (nS bs R i).e=0∧bs.drop (nS bs R i).p=zCf (nX bs R i)++bs.drop (nS bs R j).p∧(nS bs R j).p=(nS bs R i).p+(zCf (nX bs R i)).length:=by
 subst hj
 have:=zKx (nS bs R i) (zRI hp i).1 h
 exact ⟨this.1,this.2.1,this.2.2.1⟩
theorem zKA {bs:List zN} {R:Rs} (i:Nat) : -9223372036854775808≤nX bs R i∧nX bs R i≤9223372036854775807:=by
 unfold nX zAA
 exact zE4 _
theorem zRf {bs:List zN} {k id:Int} {R:Rs} (hp:R.p≤bs.length):zBK (zBW bs k id R).1=zCf (nX bs R 0)++(zCf (nX bs R 1)++(zCf (nX bs R 2)++(zCf (nX bs R 3)++(zCf (nX bs R 4)++(zCf (nX bs R 5)++zBt (zL bs 65535#64 (nS bs R 6)).1.toNat))))):=by
 have hle:=(zAl (X:=65535#64) (zRI hp 6).1).2.2.2.1
 have h2:(65535#64).toNat=65535:=rfl
 unfold zBW zBK
 dsimp only
 rw [zct (by omega)]
 simp only [List.append_assoc]
theorem zWZ {bs : List zN} {k id : Int} {R : Rs} (hp : R.p ≤ bs.length) (h : (zBW bs k id R).2.e = 0) :
   R.e=0∧bs.drop R.p=zBK (zBW bs k id R).1++bs.drop (zBW bs k id R).2.p∧(zBW bs k id R).2.p=R.p+(zBK (zBW bs k id R).1).length∧(zBW bs k id R).2.p≤bs.length:=by
 have hS:(zBW bs k id R).2=(zL bs 65535#64 (nS bs R 6)).2:=by unfold zBW;rfl
 rw [hS] at h ⊢
 obtain ⟨e6,d6,p6,q6⟩:=zDm (nS bs R 6) (zRI hp 6).1 h
 obtain ⟨e5,d5,p5⟩:=zKC hp 5 6 rfl e6
 obtain ⟨e4,d4,p4⟩:=zKC hp 4 5 rfl e5
 obtain ⟨e3,d3,p3⟩:=zKC hp 3 4 rfl e4
 obtain ⟨e2,d2,p2⟩:=zKC hp 2 3 rfl e3
 obtain ⟨e1,d1,p1⟩:=zKC hp 1 2 rfl e2
 obtain ⟨e0,d0,p0⟩:=zKC hp 0 1 rfl e1
 have hz:nS bs R 0=R:=by unfold nS;rfl
 rw [hz] at e0 d0 p0
 rw [zRf hp]
 dsimp only at d6 p6
 refine ⟨e0,?_,?_,q6⟩
 · rw [d0,d1,d2,d3,d4,d5,d6]
   simp only [List.append_assoc]
 · simp only [List.length_append]
   omega
theorem zVe {bs:List zN} {k id:Int} {R:Rs} (hk : -9223372036854775808≤k∧k≤9223372036854775807) (hi : -9223372036854775808≤id∧id≤9223372036854775807):(zBW bs k id R).1.wf:=by
 unfold zBW
 dsimp only
 exact ⟨hk,hi,zKA (bs:=bs) (R:=R) 0,zKA (bs:=bs) (R:=R) 1,zKA (bs:=bs) (R:=R) 2,zKA (bs:=bs) (R:=R) 3,zKA (bs:=bs) (R:=R) 4,zKA (bs:=bs) (R:=R) 5⟩
theorem zHf {bs:List zN} {m:BitVec 8} {R:Rs} (i:Nat) : -9223372036854775808≤upX bs m R i∧upX bs m R i≤9223372036854775807:=by
 unfold upX upI
 split
 ·unfold zAA
  exact zE4 _
 ·show -9223372036854775808≤(0:Int)∧(0:Int)≤9223372036854775807
  decide
theorem zRJ {bs:List zN} {k id:Int} {R:Rs} (hk : -9223372036854775808≤k∧k≤9223372036854775807) (hi : -9223372036854775808≤id∧id≤9223372036854775807):(zAj bs k id R).1.wf:=by
 have hz : -9223372036854775808≤(0:Int)∧(0:Int)≤9223372036854775807:=by decide
 unfold zAj
 dsimp only
 split
 · exact ⟨hk,hi,hz,hz,hz,hz,hz,hz⟩
 · exact ⟨hk,hi,zHf 0,zHf 1,zHf 2,zHf 3,zHf 4,zHf 5⟩
theorem zMi {bs:List zN} {k id:Int} {R:Rs} (hk : -9223372036854775808≤k∧k≤9223372036854775807) (hi : -9223372036854775808≤id∧id≤9223372036854775807):(zBB bs k id R).1.wf∧(zBB bs k id R).1.k=k∧(zBB bs k id R).1.id=id:=by
 have hz : -9223372036854775808≤(0:Int)∧(0:Int)≤9223372036854775807:=by decide
 unfold zBB
 split
 ·exact ⟨zVe hk hi,rfl,rfl⟩
 ·split
  ·refine ⟨zRJ hk hi,?_,?_⟩<;>(unfold zAj;dsimp only;split<;>rfl)
  ·split<;>exact ⟨⟨hk,hi,hz,hz,hz,hz,hz,hz⟩,rfl,rfl⟩
theorem zN6 : zOb.wf:=⟨by decide,by decide,by decide,by decide,by decide,by decide,by decide,by decide⟩
theorem zPO {bs:List zN} {last:Int} {R:Rs} (hp:R.p≤bs.length):(zAF bs last R).1.wf:=by
 unfold zAF
 split
 ·exact zN6
 ·split
  ·exact zN6
  ·split
   ·exact zN6
   ·rename_i h1 h2 h3
    have h4:=zOn (bs:=bs) (last:=last) hp (by omega) (by omega)
    have h5:=(zH bs (zIz bs last R).2).1.isLt
    exact (zMi (by omega) (by change _≤last+1+(((zL bs (BitVec.ofInt 64 (65534-last)) R).1.toNat:Nat):Int)∧last+1+(((zL bs (BitVec.ofInt 64 (65534-last)) R).1.toNat:Nat):Int)≤_;omega)).1
theorem zHK {bs : List zN} {m : BitVec 8} {R : Rs} (hp : R.p ≤ bs.length) (i j : Nat) (hj : j = i + 1) (h : (upS bs m R j).e = 0) :
   (upS bs m R i).e=0∧bs.drop (upS bs m R i).p=zQs m i (upX bs m R i)++bs.drop (upS bs m R j).p∧(upS bs m R j).p=(upS bs m R i).p+(zQs m i (upX bs m R i)).length:=by
 subst hj
 have:=zVE (m:=m) (i:=i) (upS bs m R i) (zIq (m:=m) hp i).1 h
 exact ⟨this.1,this.2.1,this.2.2.1⟩
theorem zRc {bs : List zN} {k id : Int} {R : Rs} (hp : R.p ≤ bs.length) (h : (zAj bs k id R).2.e = 0) :
   R.e=0∧bs.drop R.p=zBD (zAj bs k id R).1++bs.drop (zAj bs k id R).2.p∧(zAj bs k id R).2.p=R.p+(zBD (zAj bs k id R).1).length∧(zAj bs k id R).2.p≤bs.length∧zAm (zAj bs k id R).1=false:=by
 have hq:=(zDL hp).1
 by_cases hb:(zH bs R).1.toNat=0∨127<(zH bs R).1.toNat
 · rw [zHE hb] at h
   exact absurd h λh=>zEa h (by decide)
 · have hs:=zG6 (bs:=bs) (k:=k) (id:=id) (R:=R) hb (zKp rfl)
   generalize hm:(zH bs R).1=m at *
   generalize hR:(zH bs R).2=R1 at *
   rw [hs] at h
   have hl:=λi=>(zIq (m:=m) hq i).1
   have h6:=zW4 (upS bs m R1 6) (hl 6) h
   have v6:=zaj (hl 6) h
   have h5:=zHK hq 5 6 rfl h6.1
   have v5:zAn m 5=true↔upX bs m R1 5≠0:=(zHQ (m:=m) (i:=5) (R:=upS bs m R1 5) h6.1).1
   have h4:=zHK hq 4 5 rfl h5.1
   have v4:zAn m 4=true↔upX bs m R1 4≠0:=(zHQ (m:=m) (i:=4) (R:=upS bs m R1 4) h5.1).1
   have h3:=zHK hq 3 4 rfl h4.1
   have v3:zAn m 3=true↔upX bs m R1 3≠0:=(zHQ (m:=m) (i:=3) (R:=upS bs m R1 3) h4.1).1
   have h2:=zHK hq 2 3 rfl h3.1
   have v2:zAn m 2=true↔upX bs m R1 2≠0:=(zHQ (m:=m) (i:=2) (R:=upS bs m R1 2) h3.1).1
   have h1:=zHK hq 1 2 rfl h2.1
   have v1:zAn m 1=true↔upX bs m R1 1≠0:=(zHQ (m:=m) (i:=1) (R:=upS bs m R1 1) h2.1).1
   have h0:=zHK hq 0 1 rfl h1.1
   have v0:zAn m 0=true↔upX bs m R1 0≠0:=(zHQ (m:=m) (i:=0) (R:=upS bs m R1 0) h1.1).1
   have hB:=zIv R hp (by rw [hR];exact h0.1)
   rw [hm,hR] at hB
   obtain ⟨_,d6,p6,q6⟩:=h6
   obtain ⟨_,d5,p5⟩:=h5
   obtain ⟨_,d4,p4⟩:=h4
   obtain ⟨_,d3,p3⟩:=h3
   obtain ⟨_,d2,p2⟩:=h2
   obtain ⟨_,d1,p1⟩:=h1
   obtain ⟨_,d0,p0⟩:=h0
   obtain ⟨eB,dB,pB,_⟩:=hB
   dsimp only at dB pB d6 p6
   have hmask:zCH (zAj bs k id R).1=m:=by
     rw [zSE,hs]
     dsimp only
     have b:∀ {p:Prop} [Decidable p] {x:Bool},(x=true↔p)→decide p=x:=λ{p} _ {x} h=>by
       cases x with
       | true=>exact decide_eq_true (h.1 rfl)
       | false=>exact decide_eq_false λhp=>by cases h.2 hp
     rw [b v0,b v1,b v2,b v3,b v4,b v5,b v6]
     exact zN3 m (by omega)
   have hc:∀ (x:Int) (i:Nat),(zAn m i=true↔x≠0)→zQs m i x=if x=0 then [] else zCf x:=λx i hv=>by
     unfold zQs
     by_cases h0:x=0
     · rw [if_pos h0,if_neg (λhh=>hv.1 hh h0)]
     · rw [if_neg h0,if_pos (hv.2 h0)]
   have hcA:(if zAn m 6=true then zBt (upA bs m (upS bs m R1 6)).1.toNat else [])=if (upA bs m (upS bs m R1 6)).1=0#16 then [] else zBt (upA bs m (upS bs m R1 6)).1.toNat:=by
     by_cases h0:(upA bs m (upS bs m R1 6)).1=0#16
     · rw [if_pos h0,if_neg (λhh=>v6.1 hh h0)]
     · rw [if_neg h0,if_pos (v6.2 h0)]
   have e:zBD (zAj bs k id R).1=[m]++(zQs m 0 (upX bs m R1 0)++(zQs m 1 (upX bs m R1 1)++(zQs m 2 (upX bs m R1 2)++(zQs m 3 (upX bs m R1 3)++(zQs m 4 (upX bs m R1 4)++(zQs m 5 (upX bs m R1 5)++(if zAn m 6=true then zBt (upA bs m (upS bs m R1 6)).1.toNat else []))))))):=by
     rw [zKF,hmask,hs,hcA,hc _ 0 v0,hc _ 1 v1,hc _ 2 v2,hc _ 3 v3,hc _ 4 v4,hc _ 5 v5]
     rfl
   have hS:(zAj bs k id R).2=(upA bs m (upS bs m R1 6)).2:=by rw [hs]
   have hz:upS bs m R1 0=R1:=by unfold upS;rfl
   rw [hz] at d0 p0
   refine ⟨eB,?_,?_,by rw [hS];exact q6,?_⟩
   · rw [e,hS,dB,d0,d1,d2,d3,d4,d5,d6]
     simp only [List.append_assoc]
   · rw [e,hS,p6]
     simp only [List.length_append,List.length_singleton] at pB ⊢
     omega
   · cases he:zAm (zAj bs k id R).1 with
     | false=>rfl
     | true =>
       exfalso
       have hz:=zJq he
       have:zCH (zAj bs k id R).1=0#8:=by rw [hz];rfl
       rw [hmask] at this
       rw [this] at hb
       exact hb (.inl rfl)
theorem zZL {bs : List zN} {r : zW} {last : Int} {R R' : Rs} (hp : R.p ≤ bs.length) (h : zAF bs last R = (r, 0, R')) :
   zAt r last=0∧r.wf∧bs.drop R.p=zCb r last++bs.drop R'.p∧R'.p=R.p+(zCb r last).length∧R.e=0∧R'.e=0∧R'.p≤bs.length:=by
 have hwf:=zPO (last:=last) hp
 have hle:=zK4 (last:=last) hp
 rw [h] at hwf hle
 unfold zAF at h
 split at h
 · cases h
 · split at h
   · have h2:=congrArg (λx=>x.2.1) h
     exact absurd h2 λh2=>zEa h2 (by decide)
   · split at h
     · rename_i h3
       have h2:=congrArg (λx=>x.2.1) h
       exact absurd h2 h3
     · rename_i h1 h2 h3
       simp only [ne_eq,Decidable.not_not] at h3
       have hr:(zD4 bs last R).1=r:=congrArg (λx=>x.1) h
       have hS:(zD4 bs last R).2=R':=congrArg (λx=>x.2.2) h
       have hI:=zOn (bs:=bs) (last:=last) hp (by omega) (by omega)
       have hl1:(zIz bs last R).2.p≤bs.length:=(zAl (X:=BitVec.ofInt 64 (65534-last)) hp).1
       have hl2:=(zDL hl1).1
       have hkl:=(zH bs (zIz bs last R).2).1.isLt
       generalize hK:(((zH bs (zIz bs last R).2).1.toNat:Nat):Int)=K at *
       generalize hID:last+1+(((zIz bs last R).1.toNat:Nat):Int)=ID at *
       have hraw:zD4 bs last R=zBB bs K ID (zH bs (zIz bs last R).2).2:=by rw [← hK,← hID];rfl
       change last+1+(((zL bs (BitVec.ofInt 64 (65534-last)) R).1.toNat:Nat):Int)=ID at hID
       obtain ⟨w1,w2,w3⟩:=zMi (bs:=bs) (k:=K) (id:=ID) (R:=(zH bs (zIz bs last R).2).2) (by omega) (by omega)
       rw [← hraw,hr] at w1 w2 w3
       have hbody:K≤3∧(zH bs (zIz bs last R).2).2.e=0∧bs.drop (zH bs (zIz bs last R).2).2.p=zCn r++bs.drop R'.p∧R'.p=(zH bs (zIz bs last R).2).2.p+(zCn r).length∧(K=1→zAm r=false)∧(K=2→zAm r=true):=by
         rw [← hr,← hS]
         rw [← hr] at w2
         rw [hraw] at h3 w2 ⊢
         unfold zCn
         rw [w2]
         by_cases k0:K=0∨K=3
         · rw [zFu k0] at h3 ⊢
           rw [if_neg (by omega),if_neg (by omega)]
           obtain ⟨a1,a2,a3,a4⟩:=zWZ hl2 h3
           exact ⟨by omega,a1,a2,a3,by omega,by omega⟩
         · by_cases k1:K=1
           · rw [zGM k1] at h3 ⊢
             rw [if_pos k1]
             obtain ⟨a1,a2,a3,a4,a5⟩:=zRc hl2 h3
             exact ⟨by omega,a1,a2,a3,λ_=>a5,by omega⟩
           · by_cases k2:K=2
             · rw [zGG k2] at h3 ⊢
               rw [if_neg k1,if_pos k2]
               exact ⟨by omega,h3,by simp,by simp,by omega,λ_=>rfl⟩
             · rw [zKP (by omega)] at h3
               exact absurd h3 λh=>zEa h (by decide)
       obtain ⟨b0,b1,b2,b3,b4,b5⟩:=hbody
       obtain ⟨c1,c2,c3,_⟩:=zIv _ hl1 b1
       obtain ⟨d1,d2,d3,_⟩:=zDm (L:=BitVec.ofInt 64 (65534-last)) R hp c1
       have hchk:zAK r=0:=by
         unfold zAK
         rw [w2,w3,if_neg (by omega),if_neg (by omega),if_neg (by rintro (⟨e1,e2⟩ | ⟨e1,e2⟩)<;>simp_all)]
       have herr:zAt r last=0:=zCV hchk (by omega) (by rw [w3];omega)
       have hB:zCb r last=zBt (zL bs (BitVec.ofInt 64 (65534-last)) R).1.toNat++([(zH bs (zIz bs last R).2).1]++zCn r):=by
         rw [zCb,if_neg (by omega),zAa,List.append_assoc,w3,w2]
         congr 2
         · apply Int.ofNat.inj
           show (((BitVec.ofInt 64 (ID-last-1)).toNat:Nat):Int)=_
           rw [zCu (by omega) (by omega)]
           show _=(((zL bs (BitVec.ofInt 64 (65534-last)) R).1.toNat:Nat):Int)
           omega
         · congr 1
           congr 1
           apply BitVec.eq_of_toNat_eq
           rw [BitVec.toNat_ofInt]
           omega
       refine ⟨herr,w1,?_,?_,d1,by rw [← hS];exact h3,hle.1⟩
       · rw [hB,d2]
         change _++bs.drop (zIz bs last R).2.p=_
         rw [c2,b2]
         simp only [List.append_assoc]
       · rw [hB]
         have d3':(zIz bs last R).2.p=R.p+(zBt (zL bs (BitVec.ofInt 64 (65534-last)) R).1.toNat).length:=d3
         simp only [List.length_append,List.length_singleton] at c3 ⊢
         omega
end Go.Sx
