import Derived.Test.YtljpfgacpofkpaaGreatQSxBasA
import Derived.Test.YtljpfgacpofkpaaGreatQSxBasB
set_option linter.unusedVariables false
set_option linter.unusedSimpArgs false
namespace Go.Sx
def zAv (x:Nat):Nat:=if x=0 then 0 else Nat.log2 x+1
theorem zDH {x k:Nat} (h:x<2 ^ k):zAv x≤k:=by
 unfold zAv
 split
 ·omega
 ·rename_i h0
  have:=(Nat.log2_lt h0).2 h
  omega
theorem zGM {x k:Nat} (h:2 ^ k≤x):k<zAv x:=by
 unfold zAv
 have h0:x≠0:=by have:=Nat.two_pow_pos k;omega
 rw [if_neg h0]
 have:=(Nat.le_log2 h0).2 h
 omega
theorem zJ5 {x k:Nat} (h1:x<2 ^ (k+1)) (h2:2 ^ k≤x):zAv x=k+1:=by
 have:=zDH h1
 have:=zGM h2
 omega
theorem zHB {x:Nat} (k:Nat) (h:2 ^ k≤x):zAv x=k+zAv (x/2 ^ k):=by
 have hp:=Nat.two_pow_pos k
 have hq:1≤x/2 ^ k:=(Nat.le_div_iff_mul_le hp).2 (by omega)
 have h0:x/2 ^ k≠0:=by omega
 have hb:zAv (x/2 ^ k)=Nat.log2 (x/2 ^ k)+1:=by unfold zAv;rw [if_neg h0]
 have l1:=Nat.log2_self_le h0
 have l2:=Nat.lt_log2_self (n:=x/2 ^ k)
 rw [hb]
 refine (zJ5 (k:=k+Nat.log2 (x/2 ^ k)) ?_ ?_).trans (by omega)
 ·rw [Nat.add_assoc,Nat.pow_add]
  rw [Nat.mul_comm]
  exact (Nat.div_lt_iff_lt_mul hp).1 l2
 ·rw [Nat.pow_add,Nat.mul_comm]
  exact (Nat.le_div_iff_mul_le hp).1 l1
def zF6 : Nat→Nat→List zQ
 | 0,x=>[BitVec.ofNat 8 x]
 | k+1,x=>if x<128 then [BitVec.ofNat 8 x] else BitVec.ofNat 8 (x%128+128)::zF6 k (x/128)
def zCX (x:Nat):List zQ:=zF6 9 x
def zBd (x:Nat):Nat:=(zCX x).length
theorem zJF : ∀ (k j x:Nat),x<128 ^ (k+1)→zF6 (k+j) x=zF6 k x
 | 0,0,x,_=>rfl
 | 0,j+1,x,h=>by rw [Nat.zero_add];simp only [zF6];rw [if_pos (by simpa using h)]
 | k+1,j,x,h=>by
  rw [show k+1+j=(k+j)+1 by omega]
  simp only [zF6]
  by_cases hx:x<128
  ·rw [if_pos hx,if_pos hx]
  ·rw [if_neg hx,if_neg hx,zJF k j (x/128) (by rw [Nat.div_lt_iff_lt_mul (by omega)];rw [Nat.pow_succ] at h;exact h)]
theorem zD0 {x:Nat} (h:x<128):zCX x=[BitVec.ofNat 8 x]:=by unfold zCX;simp only [zF6];rw [if_pos h]
theorem zEj {x:Nat} (h:¬ x<128) (hx:x<2 ^ 64):zCX x=BitVec.ofNat 8 (x%128+128)::zCX (x/128):=by
 unfold zCX
 rw [show (9:Nat)=8+1 by rfl]
 rw [show zF6 (8+1) x=BitVec.ofNat 8 (x%128+128)::zF6 8 (x/128) by simp only [zF6];rw [if_neg h]]
 rw [zJF 8 1 (x/128) (by rw [Nat.div_lt_iff_lt_mul (by omega)];omega)]
theorem zNh : ∀ (k x:Nat),(zF6 k x).length≤k+1
 | 0,x=>by simp [zF6]
 | k+1,x=>by
  simp only [zF6]
  split
  ·simp
  ·have:=zNh k (x/128)
   simp;omega
theorem zC3 (x:Nat):zBd x≤10:=zNh 9 x
theorem zC8 (x:Nat):1≤zBd x:=by
 unfold zBd zCX
 simp only [zF6]
 split<;>simp
theorem zD2 {x:Nat} (h:x<128):zBd x=1:=by unfold zBd;rw [zD0 h];rfl
theorem zCx {x:Nat} (h:¬ x<128) (hx:x<2 ^ 64):zBd x=zBd (x/128)+1:=by unfold zBd;rw [zEj h hx];simp
theorem zLI {x:Nat} (h:x<128):zAv x≤7:=zDH (k:=7) h
theorem zYR : ∀ (d x:Nat),x<2 ^ 64→x≤d→zBd x=(max 1 (zAv x)+6)/7:=by
 intro d
 induction d using Nat.strongRecOn with
 | _ d ih =>
  intro x hx hd
  by_cases h:x<128
  ·rw [zD2 h]
   have:=zLI h
   omega
  ·have h2:=zHB (x:=x) 7 (by omega)
   rw [show (2:Nat) ^ 7=128 by rfl] at h2
   have h3:1≤zAv (x/128):=zGM (k:=0) (by omega)
   rw [zCx h hx,ih (x/128) (by omega) (x/128) (by omega) (Nat.le_refl _),h2]
   omega
theorem zTd (X:BitVec 64):(max 1 ((zAv X.toNat:Nat):Int)+7-1)/7=((zBd X.toNat:Nat):Int):=by
 rw [zYR X.toNat X.toNat X.isLt (Nat.le_refl _)]
 omega
def zMG (X:BitVec 64) (m:Nat):Nat→List zQ
 | 0=>List.replicate m 0#8
 | k+1=>(zMG X m k).set k ((X>>>(7*k)).setWidth 8|||128#8)
theorem zDN (X:BitVec 64) (m:Nat):∀ k,(zMG X m k).length=m
 | 0=>by simp [zMG]
 | k+1=>by simp [zMG,zDN X m k]
theorem zKO (X:BitVec 64) (m:Nat):∀ (k i:Nat),i<k→i<m→(zMG X m k)[i]? = some ((X>>>(7*i)).setWidth 8|||128#8)
 | 0,i,h,_=>by omega
 | k+1,i,h,hm=>by
  simp only [zMG]
  by_cases e:k=i
  ·subst e
   rw [List.getElem?_set_self (by rw [zDN];exact hm)]
  ·rw [List.getElem?_set_ne e]
   exact zKO X m k i (by omega) hm
theorem zWy (c:zQ):(c|||128#8).toNat=c.toNat%128+128:=by
 have:∀ c:BitVec 8,(c|||128#8).toNat=c.toNat%128+128:=by decide +kernel
 exact this c
theorem zNC (c:zQ):(c &&& ~~~128#8).toNat=c.toNat%128:=by
 have:∀ c:BitVec 8,(c &&& ~~~128#8).toNat=c.toNat%128:=by decide +kernel
 exact this c
theorem zG5 (X:BitVec 64) (i:Nat):((X>>>(7*i)).setWidth 8).toNat=X.toNat/2 ^ (7*i)%256:=by
 rw [BitVec.toNat_setWidth,BitVec.toNat_ushiftRight,Nat.shiftRight_eq_div_pow]
theorem zKZ : ∀ (n i x:Nat),zBd x=n→x<2 ^ 64→i<n→(zCX x)[i]? = some (if i+1=n then BitVec.ofNat 8 (x/128 ^ i) else BitVec.ofNat 8 (x/128 ^ i%128+128)):=by
 intro n
 induction n with
 | zero=>intro i x _ _ h;omega
 | succ n ih =>
  intro i x hn hx hi
  by_cases h:x<128
  ·have h1:=zD2 h
   have:n=0:=by omega
   subst this
   have:i=0:=by omega
   subst this
   rw [zD0 h]
   simp
  ·have h1:=zCx h hx
   have hpos:=zC8 (x/128)
   rw [zEj h hx]
   cases i with
   | zero =>
    rw [if_neg (by omega)]
    simp
   | succ i =>
    rw [List.getElem?_cons_succ,ih i (x/128) (by omega) (by omega) (by omega)]
    rw [Nat.div_div_eq_div_mul,show 128*128 ^ i=128 ^ (i+1) by rw [Nat.pow_succ,Nat.mul_comm]]
    by_cases e:i+1=n
    ·rw [if_pos e,if_pos (by omega)]
    ·rw [if_neg e,if_neg (by omega)]
theorem zb9 (i:Nat):(2:Nat) ^ (7*i)=128 ^ i:=by rw [Nat.pow_mul]
theorem zNv (n x:Nat) (hn:zBd x=n+1) (hx:x<2 ^ 64):x/128 ^ n<128:=by
 induction n generalizing x with
 | zero =>
  by_cases h:x<128
  ·simpa using h
  ·have:=zCx h hx;have:=zC8 (x/128);omega
 | succ n ih =>
  by_cases h:x<128
  ·have:=zD2 h;omega
  ·have:=zCx h hx
   have:=ih (x/128) (by omega) (by omega)
   rwa [Nat.div_div_eq_div_mul,show 128*128 ^ n=128 ^ (n+1) by rw [Nat.pow_succ,Nat.mul_comm]] at this
theorem zaM (X:BitVec 64) (m:Nat) (hm:zBd X.toNat=m):(zMG X m m).set (m-1) ((zMG X m m).getD (m-1) 0 &&& ~~~128#8)=zCX X.toNat:=by
 have hpos:=zC8 X.toNat
 have hlen:(zCX X.toNat).length=m:=hm
 apply List.ext_getElem?
 intro i
 by_cases hi:i<m
 ·rw [zKZ m i X.toNat hm X.isLt hi]
  by_cases e:m-1=i
  ·subst e
   rw [List.getElem?_set_self (by rw [zDN];exact hi),if_pos (by omega)]
   have hg:=zKO X m m (m-1) (by omega) hi
   have ht:=zNv (m-1) X.toNat (by omega) X.isLt
   congr 1
   apply BitVec.eq_of_toNat_eq
   rw [zNC,List.getD_eq_getElem?_getD,hg,Option.getD_some,zWy,zG5,zb9,BitVec.toNat_ofNat]
   generalize X.toNat/128 ^ (m-1)=q at *
   omega
  ·rw [List.getElem?_set_ne e,zKO X m m i hi hi,if_neg (by omega)]
   congr 1
   apply BitVec.eq_of_toNat_eq
   rw [zWy,zG5,zb9,BitVec.toNat_ofNat]
   omega
 ·rw [List.getElem?_eq_none (by rw [List.length_set,zDN];omega),List.getElem?_eq_none (by omega)]
theorem zZJ : ∀ (n x:Nat),1≤n→x<2 ^ 64→x<128 ^ n→zBd x≤n:=by
 intro n
 induction n with
 | zero=>intro x h;omega
 | succ n ih =>
  intro x h1 hx h
  by_cases hs:x<128
  ·rw [zD2 hs];omega
  ·have h2:=zCx hs hx
   cases n with
   | zero=>simp at h;omega
   | succ n =>
    have:=ih (x/128) (by omega) (by omega) (by rw [Nat.div_lt_iff_lt_mul (by omega)];rw [Nat.pow_succ] at h;exact h)
    omega
def zEl : List zQ→Nat
 | []=>0
 | c::l=>c.toNat%128+128*zEl l
def zBA : Nat→List zQ→Nat
 | 0,_=>0
 | _,[]=>0
 | k+1,c::l=>if 128≤c.toNat then zBA k l+1 else 0
def zCW (b:List zQ):BitVec 64×Nat×Nat :=
 if b.length=0 then (0#64,0,5) else if zBA 10 b=10 then (0#64,0,8) else if zBA 10 b=b.length then (0#64,0,6)
 else if zBA 10 b=9∧1<(b.getD (zBA 10 b) 0).toNat then (0#64,0,8)
 else if (b.getD (zBA 10 b) 0).toNat=0∧0<zBA 10 b then (0#64,0,7)
 else (BitVec.ofNat 64 (zEl (b.take (zBA 10 b+1))),zBA 10 b+1,0)
theorem zGG : ∀ (k:Nat) (b:List zQ),zBA k b≤k∧zBA k b≤b.length
 | 0,b=>by simp [zBA]
 | k+1,[]=>by simp [zBA]
 | k+1,c::l=>by
  have:=zGG k l
  simp only [zBA]
  split
  ·simp;omega
  ·simp
theorem zFI : ∀ (k i:Nat) (b:List zQ),i≤zBA k b→i<k→i<b.length→128≤(b.getD i 0).toNat→i+1≤zBA k b
 | 0,i,b,_,h,_,_=>by omega
 | k+1,i,[],_,_,h,_=>by simp at h
 | k+1,0,c::l,_,_,_,h=>by
  simp only [zBA]
  rw [if_pos (by simpa using h)]
  omega
 | k+1,i+1,c::l,h1,h2,h3,h4=>by
  simp only [zBA] at *
  split at h1
  ·rename_i hc
   rw [if_pos hc]
   have:=zFI k i l (by omega) (by omega) (by simpa using h3) (by simpa using h4)
   omega
  ·omega
theorem zFT : ∀ (k i:Nat) (b:List zQ),i≤zBA k b→i<b.length→(b.getD i 0).toNat<128→zBA k b=i
 | 0,i,b,h,_,_=>by simp only [zBA] at *;omega
 | k+1,i,[],_,h,_=>by simp at h
 | k+1,0,c::l,_,_,h=>by
  simp only [zBA]
  rw [if_neg (by have:c.toNat<128:=(by simpa using h);omega)]
 | k+1,i+1,c::l,h1,h3,h4=>by
  simp only [zBA] at *
  split at h1
  ·rename_i hc
   rw [if_pos hc,zFT k i l (by omega) (by simpa using h3) (by simpa using h4)]
  ·omega
theorem zJp : ∀ (b:List zQ),zEl b<128 ^ b.length
 | []=>by simp [zEl]
 | c::l=>by
  have:=zJp l
  simp only [zEl,List.length_cons,Nat.pow_succ]
  omega
theorem zIQ : ∀ (b c:List zQ),zEl (b++c)=zEl b+128 ^ b.length*zEl c
 | [],c=>by simp [zEl]
 | x::l,c=>by
  simp only [zEl,List.cons_append,zIQ l c,List.length_cons,Nat.pow_succ]
  rw [Nat.mul_add,Nat.mul_comm (128 ^ l.length) 128,Nat.mul_assoc]
  omega
theorem zKu (b:List zQ) (i:Nat) (h:i<b.length):zEl (b.take (i+1))=zEl (b.take i)+128 ^ i*((b.getD i 0).toNat%128):=by
 rw [List.take_add_one,zIQ]
 have:b[i]?.toList=[b.getD i 0]:=by simp [h,List.getD_eq_getElem?_getD]
 rw [this,List.length_take,Nat.min_eq_left (by omega)]
 simp [zEl]
theorem zHV (b : List zQ) (i : Nat) (h : i < b.length) (h9 : i ≤ 9) :
   BitVec.ofNat 64 (zEl (b.take i))|||((b.getD i 0 &&& ~~~128#8).setWidth 64)<<<(7*i)=BitVec.ofNat 64 (zEl (b.take (i+1))):=by
 have hl:=zJp (b.take i)
 rw [List.length_take,Nat.min_eq_left (by omega)] at hl
 have hp:128 ^ i≤128 ^ 9:=Nat.pow_le_pow_right (by omega) h9
 have hp2:(128:Nat) ^ 9<2 ^ 64:=by decide
 have hc:(b.getD i 0).toNat%128<128:=Nat.mod_lt _ (by omega)
 rw [zKu b i h]
 apply BitVec.eq_of_toNat_eq
 rw [BitVec.toNat_or,BitVec.toNat_shiftLeft,BitVec.toNat_setWidth,zNC,BitVec.toNat_ofNat,BitVec.toNat_ofNat]
 rw [Nat.mod_eq_of_lt (by omega:(b.getD i 0).toNat%128<2 ^ 64),Nat.mod_eq_of_lt (by omega:zEl (b.take i)<2 ^ 64)]
 rw [Nat.or_comm,← zb9] at *
 have e:2 ^ (7*i)*((b.getD i 0).toNat%128)+zEl (b.take i)=((b.getD i 0).toNat%128)<<<(7*i)|||zEl (b.take i):=by
   rw [← Nat.shiftLeft_add_eq_or_of_lt hl,Nat.shiftLeft_eq,Nat.mul_comm]
 rw [Nat.add_comm,e,Nat.or_mod_two_pow,Nat.mod_eq_of_lt (by omega:zEl (b.take i)<2 ^ 64)]
theorem zah (c:zQ) (i:Nat) (h9:i≤9):((((c &&& ~~~128#8).setWidth 64)<<<(7*i))>>>(7*i)=(c &&& ~~~128#8).setWidth 64)↔¬ (i=9∧1<c.toNat%128):=by
 have hc:c.toNat%128<128:=Nat.mod_lt _ (by omega)
 rw [← BitVec.toNat_inj]
 rw [BitVec.toNat_ushiftRight,BitVec.toNat_shiftLeft,BitVec.toNat_setWidth,zNC,Nat.shiftLeft_eq,Nat.shiftRight_eq_div_pow,Nat.mod_eq_of_lt (by omega:c.toNat%128<2 ^ 64)]
 generalize c.toNat%128=q at *
 by_cases e:i=9
 · subst e
   rw [show (7*9)=63 by rfl]
   omega
 · have h1 : q * 2 ^ (7 * i) < 2 ^ 64 := by
     have:2 ^ (7*i)≤2 ^ (7*8):=Nat.pow_le_pow_right (by omega) (by omega)
     rw [show 7*8=56 by rfl] at this
     have:q*2 ^ (7*i)≤127*2 ^ 56:=Nat.mul_le_mul (by omega) this
     omega
   rw [Nat.mod_eq_of_lt h1,Nat.mul_div_cancel _ (Nat.two_pow_pos _)]
   simp [e]
theorem zCS {b:List zQ} (h:b.length=0):zCW b=(0#64,0,5):=by unfold zCW;rw [if_pos h]
theorem zB5 {b:List zQ} {i:Nat} (h1:i≤zBA 10 b) (hi:i<b.length) (h9:i≤9) (hc:(b.getD i 0).toNat<128) (ho:¬ ((((b.getD i 0 &&& ~~~128#8).setWidth 64)<<<(7*i))>>>(7*i)=(b.getD i 0 &&& ~~~128#8).setWidth 64)):zCW b=(0#64,0,8):=by
 rw [zah _ _ h9] at ho
 have hn:=zFT 10 i b h1 hi hc
 unfold zCW
 rw [if_neg (by omega),hn,if_neg (by omega),if_neg (by omega),if_pos (by omega)]
theorem zB7 {b:List zQ} {i:Nat} (h1:i≤zBA 10 b) (hi:i<b.length) (h9:i≤9) (hi0:0<i) (h0:(b.getD i 0).toNat=0):zCW b=(0#64,0,7):=by
 have hn:=zFT 10 i b h1 hi (by omega)
 unfold zCW
 rw [if_neg (by omega),hn,if_neg (by omega),if_neg (by omega),if_neg (by omega),if_pos (by omega)]
theorem zCl {b:List zQ} {i:Nat} (h1:i≤zBA 10 b) (hi:i<b.length) (h9:i≤9) (hc:(b.getD i 0).toNat<128) (hov:(((b.getD i 0 &&& ~~~128#8).setWidth 64)<<<(7*i))>>>(7*i)=(b.getD i 0 &&& ~~~128#8).setWidth 64) (h0:¬ ((b.getD i 0).toNat=0∧0<i)):zCW b=(BitVec.ofNat 64 (zEl (b.take (i+1))),i+1,0):=by
 rw [zah _ _ h9] at hov
 have hn:=zFT 10 i b h1 hi hc
 unfold zCW
 rw [if_neg (by omega),hn,if_neg (by omega),if_neg (by omega),if_neg (by omega),if_neg (by omega)]
theorem zB6 {b:List zQ} (h1:10≤zBA 10 b):zCW b=(0#64,0,8):=by
 have:=zGG 10 b
 unfold zCW
 rw [if_neg (by omega),if_pos (by omega)]
theorem zBS {b:List zQ} (h0:0<b.length) (h1:b.length≤zBA 10 b) (hl:b.length<10):zCW b=(0#64,0,6):=by
 have:=zGG 10 b
 unfold zCW
 rw [if_neg (by omega),if_neg (by omega),if_pos (by omega)]
theorem zRz : ∀ (n k x:Nat) (r:List zQ),zBd x=n+1→x<2 ^ 64→n≤k→(n<k∨r=[])→zBA k (zCX x++r)=n:=by
 intro n
 induction n with
 | zero =>
  intro k x r hn hx hk hr
  have h:x<128:=by
   apply Classical.byContradiction
   intro h
   have:=zCx h hx;have:=zC8 (x/128);omega
  rw [zD0 h]
  cases k with
  | zero=>rfl
  | succ k =>
   simp only [List.singleton_append,zBA]
   rw [if_neg]
   rw [BitVec.toNat_ofNat]
   omega
 | succ n ih =>
  intro k x r hn hx hk hr
  have h:¬ x<128:=by intro h;have:=zD2 h;omega
  have h1:=zCx h hx
  rw [zEj h hx]
  cases k with
  | zero=>omega
  | succ k =>
   simp only [List.cons_append,zBA]
   rw [if_pos (by rw [BitVec.toNat_ofNat];omega),ih k (x/128) r (by omega) (by omega) (by omega) (hr.imp (by omega) id)]
theorem zVD : ∀ (n x:Nat),zBd x=n→x<2 ^ 64→zEl (zCX x)=x:=by
 intro n
 induction n with
 | zero=>intro x hn;have:=zC8 x;omega
 | succ n ih =>
  intro x hn hx
  by_cases h:x<128
  ·rw [zD0 h]
   simp only [zEl,BitVec.toNat_ofNat]
   omega
  ·have h1:=zCx h hx
   rw [zEj h hx]
   simp only [zEl,BitVec.toNat_ofNat]
   rw [ih (x/128) (by omega) (by omega)]
   omega
theorem zTl (X:BitVec 64) (r:List zQ):zCW (zCX X.toNat++r)=(X,zBd X.toNat,0):=by
 have hx:=X.isLt
 have hp:=zC8 X.toNat
 have hle:=zC3 X.toNat
 have hl:(zCX X.toNat).length=zBd X.toNat:=rfl
 have hn:=zRz (zBd X.toNat-1) 10 X.toNat r (by omega) hx (by omega) (by omega)
 have ht:=zNv (zBd X.toNat-1) X.toNat (by omega) hx
 have hg:=zKZ (zBd X.toNat) (zBd X.toNat-1) X.toNat rfl hx (by omega)
 rw [if_pos (by omega)] at hg
 have hd:(zCX X.toNat++r).getD (zBd X.toNat-1) 0=BitVec.ofNat 8 (X.toNat/128 ^ (zBd X.toNat-1)):=by
  rw [List.getD_eq_getElem?_getD,List.getElem?_append_left (by omega),hg]
  rfl
 have hdn:((zCX X.toNat++r).getD (zBd X.toNat-1) 0).toNat=X.toNat/128 ^ (zBd X.toNat-1):=by
  rw [hd,BitVec.toNat_ofNat]
  generalize X.toNat/128 ^ (zBd X.toNat-1)=q at *
  omega
 have h9:zBd X.toNat-1=9→¬ 1<X.toNat/128 ^ (zBd X.toNat-1):=by
  intro e
  rw [e,show (128:Nat) ^ 9=9223372036854775808 by rfl]
  omega
 have h0:0<zBd X.toNat-1→¬ X.toNat/128 ^ (zBd X.toNat-1)=0:=by
  intro h0 e
  have:=Nat.div_eq_zero_iff.1 e
  rcases this with h | h
  ·have:=Nat.pos_of_ne_zero (n:=128 ^ (zBd X.toNat-1)) (by intro h;have:=Nat.pow_eq_zero.1 h;omega);omega
  ·have:=zZJ (zBd X.toNat-1) X.toNat (by omega) hx h
   omega
 unfold zCW
 have hla:(zCX X.toNat++r).length=zBd X.toNat+r.length:=by rw [List.length_append,hl]
 rw [if_neg (by omega),hn,if_neg (by omega),if_neg (by omega),hdn,if_neg (λh=>h9 h.1 h.2),if_neg (λh=>h0 h.2 h.1),show zBd X.toNat-1+1=zBd X.toNat by omega]
 rw [← hl,List.take_left',zVD _ _ rfl hx]
 ·simp
 ·rfl
theorem zTL (X:BitVec 64) (i:Nat) (h1:1≤i) (h2:i<zBd X.toNat):zCW ((zCX X.toNat).take i)=(0#64,0,6):=by
 have hle:=zC3 X.toNat
 have hl:(zCX X.toNat).length=zBd X.toNat:=rfl
 refine zBS (by simp;omega) ?_ (by simp;omega)
 have:∀ j,j≤i→j≤zBA 10 ((zCX X.toNat).take i):=by
  intro j
  induction j with
  | zero=>intro _;omega
  | succ j ih =>
   intro hj
   refine zFI 10 j _ (ih (by omega)) (by omega) (by simp;omega) ?_
   have hg:=zKZ (zBd X.toNat) j X.toNat rfl X.isLt (by omega)
   rw [if_neg (by omega)] at hg
   rw [List.getD_eq_getElem?_getD,List.getElem?_take_of_lt (by omega),hg,Option.getD_some,BitVec.toNat_ofNat]
   omega
 have:=this i (Nat.le_refl _)
 simp;omega
theorem zVX : ∀ (n:Nat) (b:List zQ),n<b.length→(∀ j,j<n→128≤(b.getD j 0).toNat)→(b.getD n 0).toNat<128→¬ ((b.getD n 0).toNat=0∧0<n)→zEl (b.take (n+1))<2 ^ 64→zCX (zEl (b.take (n+1)))=b.take (n+1)∧((b.getD n 0).toNat≠0→zEl (b.take (n+1))≠0):=by
 intro n
 induction n with
 | zero =>
  intro b hb _ hc _ _
  cases b with
  | nil=>simp at hb
  | cons c l =>
   have hc':c.toNat<128:=by simpa using hc
   simp only [Nat.zero_add,List.take_succ_cons,List.take_zero,zEl,Nat.mul_zero,Nat.add_zero]
   rw [Nat.mod_eq_of_lt hc',zD0 hc']
   simp
 | succ n ih =>
  intro b hb hj hc h0 hv
  cases b with
  | nil=>simp at hb
  | cons c l =>
   have hc0:128≤c.toNat:=by simpa using hj 0 (by omega)
   simp only [List.take_succ_cons,zEl] at hv ⊢
   simp only [List.getD_cons_succ] at hc h0
   have:=ih l (by simpa using hb) (λj h=>by simpa using hj (j+1) (by omega)) hc (by omega) (by omega)
   have hnz:=this.2 (by omega)
   refine ⟨?_,λ_=>by omega⟩
   rw [zEj (by omega) hv]
   congr 1
   ·apply BitVec.eq_of_toNat_eq
    have:=c.isLt
    rw [BitVec.toNat_ofNat]
    omega
   ·rw [show (c.toNat%128+128*zEl (l.take (n+1)))/128=zEl (l.take (n+1)) by omega]
    exact this.1
theorem zKn : ∀ (k:Nat) (b:List zQ) (j:Nat),j<zBA k b→128≤(b.getD j 0).toNat
 | 0,b,j,h=>by simp [zBA] at h
 | k+1,[],j,h=>by simp [zBA] at h
 | k+1,c::l,j,h=>by
  simp only [zBA] at h
  split at h
  ·cases j with
   | zero=>simpa
   | succ j=>simpa using zKn k l j (by omega)
  ·omega
theorem zJA : ∀ (k:Nat) (b:List zQ),zBA k b<k→zBA k b<b.length→(b.getD (zBA k b) 0).toNat<128
 | 0,b,h,_=>by omega
 | k+1,[],_,h=>by simp at h
 | k+1,c::l,h1,h2=>by
  simp only [zBA] at *
  split
  ·rename_i hc
   rw [if_pos hc] at h1 h2
   simpa using zJA k l (by omega) (by simpa using h2)
  ·simp;omega
theorem zJ9 {b:List zQ} {z:BitVec 64} {k:Nat} (h:zCW b=(z,k,0)):1≤k∧k≤b.length∧zCX z.toNat=b.take k:=by
 have hle:=zGG 10 b
 unfold zCW at h
 split at h
 ·simp at h
 split at h
 ·simp at h
 split at h
 ·simp at h
 split at h
 ·simp at h
 split at h
 ·simp at h
 rename_i h1 h2 h3 h4 h5
 simp only [Prod.mk.injEq] at h
 obtain ⟨rfl,rfl,_⟩:=h
 have hn:=zJA 10 b (by omega) (by omega)
 have hv:zEl (b.take (zBA 10 b+1))<2 ^ 64:=by
  by_cases e:zBA 10 b=9
  ·rw [zKu b _ (by omega)]
   have:=zJp (b.take (zBA 10 b))
   rw [List.length_take,Nat.min_eq_left (by omega)] at this
   rw [e] at this hn h4 ⊢
   rw [show (128:Nat) ^ 9=9223372036854775808 by rfl] at *
   omega
  ·have:=zJp (b.take (zBA 10 b+1))
   rw [List.length_take,Nat.min_eq_left (by omega)] at this
   have:(128:Nat) ^ (zBA 10 b+1)≤128 ^ 9:=Nat.pow_le_pow_right (by omega) (by omega)
   rw [show (128:Nat) ^ 9=9223372036854775808 by rfl] at this
   omega
 refine ⟨by omega,by omega,?_⟩
 rw [BitVec.toNat_ofNat,Nat.mod_eq_of_lt hv]
 exact (zVX (zBA 10 b) b (by omega) (λj hj=>zKn 10 b j hj) hn h5 hv).1
def zYV : ByteArray:=(ByteArray.mk (List.toArray (List.append (List.append [0,1,2,2,3,3,3,3,4,4,4,4,4,4,4,4,5,5,5,5,5,5,5,5,5,5,5,5,5,5,5,5,6,6,6,6,6,6,6,6,6,6,6,6,6,6,6,6,6,6,6,6,6,6,6,6,6,6,6,6,6,6,6,6] [7,7,7,7,7,7,7,7,7,7,7,7,7,7,7,7,7,7,7,7,7,7,7,7,7,7,7,7,7,7,7,7,7,7,7,7,7,7,7,7,7,7,7,7,7,7,7,7,7,7,7,7,7,7,7,7,7,7,7,7,7,7,7,7]) (List.append [8,8,8,8,8,8,8,8,8,8,8,8,8,8,8,8,8,8,8,8,8,8,8,8,8,8,8,8,8,8,8,8,8,8,8,8,8,8,8,8,8,8,8,8,8,8,8,8,8,8,8,8,8,8,8,8,8,8,8,8,8,8,8,8] [8,8,8,8,8,8,8,8,8,8,8,8,8,8,8,8,8,8,8,8,8,8,8,8,8,8,8,8,8,8,8,8,8,8,8,8,8,8,8,8,8,8,8,8,8,8,8,8,8,8,8,8,8,8,8,8,8,8,8,8,8,8,8,8]))))
theorem zDm : ∀ Y:BitVec 8,zYV[Y.toNat]? = some (UInt8.ofBitVec (BitVec.ofNat 8 (zAv Y.toNat))):=by decide +kernel
theorem zZD (Y:BitVec 64) (k:Nat) (h:2 ^ k≤Y.toNat):zAv Y.toNat=k+zAv (Y>>>k).toNat:=by
 rw [BitVec.toNat_ushiftRight,Nat.shiftRight_eq_div_pow]
 exact zHB k h
theorem zWw (Y:BitVec 64) (h:Y.toNat<256):(BitVec.ofNat 8 (zAv (Y.setWidth 8).toNat)).toNat=zAv Y.toNat:=by
 rw [BitVec.toNat_setWidth,Nat.mod_eq_of_lt (by omega),BitVec.toNat_ofNat]
 have:=zDH (k:=8) h
 omega
theorem zEO (Y:BitVec 64) (k:Nat):(Y>>>k).toNat=Y.toNat/2 ^ k:=by rw [BitVec.toNat_ushiftRight,Nat.shiftRight_eq_div_pow]
def zGY (x:Int):BitVec 64:=if 0≤x then BitVec.ofInt 64 (2*x) else BitVec.ofInt 64 (-2*x-1)
def zPJ (X:BitVec 64):Int:=if X.toNat%2=0 then ((X.toNat/2:Nat):Int) else -((X.toNat/2:Nat):Int)-1
theorem zOw (p:Int):BitVec.ofInt 64 (IntKind.i64.wrap p)=BitVec.ofInt 64 p:=by
 rw [IntKind.wrap_i64]
 apply BitVec.eq_of_toNat_eq
 simp only [BitVec.toNat_ofInt]
 rw [show ((2 ^ 64:Nat):Int)=18446744073709551616 by rfl]
 omega
theorem zbL (p:Int) (h : -9223372036854775808≤p∧p≤9223372036854775807):BitVec.ofInt 64 (IntKind.i64.wrap (p*2 ^ (min 1 64)))^^^BitVec.ofInt 64 (p.fdiv (2 ^ (min 63 64)))=zGY p:=by
 rw [zOw]
 unfold zGY
 rw [show (2:Int) ^ (min 1 64)=2 by decide,show (2:Int) ^ (min 63 64)=9223372036854775808 by decide,Int.fdiv_eq_ediv_of_nonneg _ (by omega)]
 split
 ·rw [show p/9223372036854775808=0 by omega,Int.mul_comm]
  simp
 ·rw [show p/9223372036854775808 = -1 by omega]
  rw [show BitVec.ofInt 64 (-1)=BitVec.allOnes 64 by decide,BitVec.xor_allOnes]
  apply BitVec.eq_of_toNat_eq
  simp only [BitVec.toNat_not,BitVec.toNat_ofInt]
  omega
theorem zbl (X:BitVec 64):(X&&&1#64).toInt=((X.toNat%2:Nat):Int):=by
 rw [BitVec.toInt_eq_toNat_cond,BitVec.toNat_and]
 simp [Nat.and_one_is_mod]
 omega
theorem zbS (X:BitVec 64):(BitVec.ofInt 64 (X>>>1).toInt^^^BitVec.ofInt 64 (-(X&&&1#64).toInt)).toInt=zPJ X:=by
 rw [zbl,BitVec.ofInt_toInt]
 have hx:=X.isLt
 unfold zPJ
 split
 ·rename_i h
  rw [h]
  simp only [Int.natCast_zero,Int.neg_zero]
  rw [show BitVec.ofInt 64 0=0#64 by decide,BitVec.xor_zero,BitVec.toInt_eq_toNat_cond,zEO]
  rw [Nat.pow_one]
  split<;>omega
 ·rename_i h
  rw [show X.toNat%2=1 by omega]
  rw [show BitVec.ofInt 64 (-((1:Nat):Int))=BitVec.allOnes 64 by decide,BitVec.xor_allOnes,BitVec.toInt_eq_toNat_cond,BitVec.toNat_not,zEO]
  rw [Nat.pow_one]
  split<;>omega
theorem zF7 (X:BitVec 64) : -9223372036854775808≤zPJ X∧zPJ X≤9223372036854775807:=by
 have hx:=X.isLt
 unfold zPJ
 split<;>omega
theorem zYp (p:Int) (h : -9223372036854775808≤p∧p≤9223372036854775807):zPJ (zGY p)=p:=by
 unfold zGY
 split
 ·unfold zPJ
  rw [BitVec.toNat_ofInt]
  split<;>omega
 ·unfold zPJ
  rw [BitVec.toNat_ofInt]
  split<;>omega
theorem zIw {b:List zQ} (h:(zCW b).2.2=0):1≤(zCW b).2.1∧(zCW b).2.1≤b.length∧zCX (zCW b).1.toNat=b.take (zCW b).2.1 :=
 zJ9 (z:=(zCW b).1) (k:=(zCW b).2.1) (by rw [← h])
structure Rs where
 p:Nat
 e:Nat
def zH (bs:List zQ) (R:Rs):zQ×Rs:=if R.e≠0 then (0#8,R) else if bs.length≤R.p then (0#8,⟨R.p,6⟩) else (bs.getD R.p 0,⟨R.p+1,0⟩)
def zIt (b:List zQ) (X:BitVec 64):Nat:=if (zCW b).2.2=0∧X.toNat<(zCW b).1.toNat then 3 else (zCW b).2.2
def zP (bs:List zQ) (X:BitVec 64) (R:Rs):BitVec 64×Rs :=
 if R.e≠0 then (0#64,R) else if bs.length≤R.p then (0#64,⟨R.p,6⟩) else if zIt (bs.drop R.p) X≠0 then (0#64,⟨R.p,zIt (bs.drop R.p) X⟩) else ((zCW (bs.drop R.p)).1,⟨R.p+(zCW (bs.drop R.p)).2.1,0⟩)
def zAE (bs:List zQ) (R:Rs):Int×Rs:=(zPJ (zP bs 18446744073709551615#64 R).1,(zP bs 18446744073709551615#64 R).2)
def zBo (e:Nat) (R:Rs):Rs:=if R.e=0 then ⟨R.p,e⟩ else R
def zIz (bs:List zQ) (R:Rs):Nat:=if R.e≠0∨bs.length≤R.p then R.e else 8
def zZ2 (bs:List zQ) (R:Rs):Rs:=(zAE bs (zAE bs (zAE bs R).2).2).2
theorem zMr {b:List zQ} {X:BitVec 64} (h:zIt b X=0):(zCW b).2.2=0∧¬ X.toNat<(zCW b).1.toNat:=by
 unfold zIt at h
 split at h
 ·cases h
 ·rename_i h'
  exact ⟨h,λh2=>h' ⟨h,h2⟩⟩
theorem zQP {b:List zQ} {X:BitVec 64} (h:zIt b X=0):1≤(zCW b).2.1∧(zCW b).2.1≤b.length:=by
 have:=zIw (zMr h).1
 exact ⟨this.1,this.2.1⟩
theorem zV7 (b:List zQ):(zCW b).2.1≤10:=by
 have:=zGG 10 b
 unfold zCW
 repeat' split
 all_goals simp
 omega
theorem zCu {bs:List zQ} {X:BitVec 64} {R:Rs} (h:R.e≠0):zP bs X R=(0#64,R):=by unfold zP;rw [if_pos h]
theorem zCc {bs:List zQ} {X:BitVec 64} {R:Rs} (h:R.e=0) (h1:bs.length≤R.p):zP bs X R=(0#64,⟨R.p,6⟩):=by unfold zP;rw [if_neg (by omega),if_pos h1]
theorem zDt {bs:List zQ} {X:BitVec 64} {R:Rs} (h:R.e=0) (h1:¬ bs.length≤R.p) (h2:zIt (bs.drop R.p) X≠0):zP bs X R=(0#64,⟨R.p,zIt (bs.drop R.p) X⟩):=by unfold zP;rw [if_neg (by omega),if_neg h1,if_pos h2]
theorem zDC {bs:List zQ} {X:BitVec 64} {R:Rs} (h:R.e=0) (h1:¬ bs.length≤R.p) (h2:zIt (bs.drop R.p) X=0):zP bs X R=((zCW (bs.drop R.p)).1,⟨R.p+(zCW (bs.drop R.p)).2.1,0⟩):=by unfold zP;rw [if_neg (by omega),if_neg h1,if_neg (by omega)]
theorem zD4 {bs:List zQ} {R:Rs} (h:R.e≠0):zH bs R=(0#8,R):=by unfold zH;rw [if_pos h]
theorem zDW {bs:List zQ} {R:Rs} (h:R.e=0) (h1:bs.length≤R.p):zH bs R=(0#8,⟨R.p,6⟩):=by unfold zH;rw [if_neg (by omega),if_pos h1]
theorem zDy {bs:List zQ} {R:Rs} (h:R.e=0) (h1:¬ bs.length≤R.p):zH bs R=(bs.getD R.p 0,⟨R.p+1,0⟩):=by unfold zH;rw [if_neg (by omega),if_neg h1]
theorem zA8 {bs:List zQ} {X:BitVec 64} {R:Rs} (h:R.p≤bs.length):(zP bs X R).2.p≤bs.length∧R.p≤(zP bs X R).2.p∧(zP bs X R).2.p≤R.p+10∧(zP bs X R).1.toNat≤X.toNat∧(R.e≠0→zP bs X R=(0#64,R)):=by
 by_cases h0:R.e=0
 ·by_cases h1:bs.length≤R.p
  ·rw [zCc h0 h1];simp;omega
  ·by_cases h2:zIt (bs.drop R.p) X=0
   ·rw [zDC h0 h1 h2]
    have:=zQP h2
    have h3:=zV7 (bs.drop R.p)
    have h4:=(zMr h2).2
    simp only [List.length_drop] at this
    simp [h0]
    omega
   ·rw [zDt h0 h1 h2];simp [h0];omega
 ·rw [zCu h0];simp;omega
theorem zEF {bs:List zQ} {R:Rs} (h:R.p≤bs.length):(zH bs R).2.p≤bs.length∧R.p≤(zH bs R).2.p∧(zH bs R).2.p≤R.p+1∧(R.e≠0→zH bs R=(0#8,R)):=by
 by_cases h0:R.e=0
 ·by_cases h1:bs.length≤R.p
  ·rw [zDW h0 h1];simp [h0];omega
  ·rw [zDy h0 h1];simp [h0];omega
 ·rw [zD4 h0];simp;omega
theorem zDX {bs:List zQ} {R:Rs} (h:R.p≤bs.length):(zAE bs R).2.p≤bs.length∧R.p≤(zAE bs R).2.p∧(zAE bs R).2.p≤R.p+10∧(R.e≠0→zAE bs R=(0,R)):=by
 have:=zA8 (X:=18446744073709551615#64) h
 refine ⟨this.1,this.2.1,this.2.2.1,λh0=>?_⟩
 unfold zAE
 rw [this.2.2.2.2 h0]
 simp [zPJ]
theorem zXI {bs:List zQ} {R:Rs} (h:R.p≤bs.length):(zZ2 bs R).p≤bs.length∧R.p≤(zZ2 bs R).p∧(zZ2 bs R).p≤R.p+30:=by
 have h1:=zDX h
 have h2:=zDX h1.1
 have h3:=zDX h2.1
 unfold zZ2
 omega
theorem zBZ {bs:List zQ} {e:Nat} {R:Rs} (h:R.p≤bs.length):(zBo e R).p≤bs.length∧(zBo e R).p=R.p∧(R.e=0→(zBo e R).e=e)∧(R.e≠0→(zBo e R).e=R.e):=by
 unfold zBo
 split
 · rename_i h0;simp [h,h0]
 · rename_i h0;simp [h,h0]
theorem zO4 {bs:List zQ} {R:Rs} (h:R.e≠0):(zH bs R).2.p=R.p∧(zH bs R).2.e=R.e∧(zH bs R).1.toNat=0:=by rw [zD4 h];simp
theorem zI6 {bs:List zQ} {X:BitVec 64} {R:Rs} (h:R.e≠0):(zP bs X R).2.p=R.p∧(zP bs X R).2.e=R.e∧(zP bs X R).1.toNat=0:=by rw [zCu h];simp
theorem zLK {bs:List zQ} {R:Rs} (h:R.e≠0):(zAE bs R).2.p=R.p∧(zAE bs R).2.e=R.e∧(zAE bs R).1=0:=by
 unfold zAE
 rw [zCu h]
 simp [zPJ]
structure zY where
 k:Int
 id:Int
 p0:Int
 p1:Int
 p2:Int
 v0:Int
 v1:Int
 v2:Int
 a:BitVec 16
instance : Inhabited zY:=⟨⟨0,0,0,0,0,0,0,0,0#16⟩⟩
structure zY.wf (r:zY):Prop where
 k : -9223372036854775808≤r.k∧r.k≤9223372036854775807
 id : -9223372036854775808≤r.id∧r.id≤9223372036854775807
 p0 : -9223372036854775808≤r.p0∧r.p0≤9223372036854775807
 p1 : -9223372036854775808≤r.p1∧r.p1≤9223372036854775807
 p2 : -9223372036854775808≤r.p2∧r.p2≤9223372036854775807
 v0 : -9223372036854775808≤r.v0∧r.v0≤9223372036854775807
 v1 : -9223372036854775808≤r.v1∧r.v1≤9223372036854775807
 v2 : -9223372036854775808≤r.v2∧r.v2≤9223372036854775807
theorem zY.wf.facts {r:zY} (h:r.wf):(-9223372036854775808≤r.k∧r.k≤9223372036854775807)∧(-9223372036854775808≤r.id∧r.id≤9223372036854775807)∧(-9223372036854775808≤r.p0∧r.p0≤9223372036854775807)∧(-9223372036854775808≤r.p1∧r.p1≤9223372036854775807)∧(-9223372036854775808≤r.p2∧r.p2≤9223372036854775807) ∧
 (-9223372036854775808≤r.v0∧r.v0≤9223372036854775807)∧(-9223372036854775808≤r.v1∧r.v1≤9223372036854775807)∧(-9223372036854775808≤r.v2∧r.v2≤9223372036854775807):=⟨h.k,h.id,h.p0,h.p1,h.p2,h.v0,h.v1,h.v2⟩
def zDv (r:zY):List Value:=[.int .i64 r.k,.int .i64 r.id,.int .i64 r.p0,.int .i64 r.p1,.int .i64 r.p2,.int .i64 r.v0,.int .i64 r.v1,.int .i64 r.v2,.int .u16 ((r.a.toNat:Nat):Int)]
def zY.num (r:zY):Nat→Int
 | 0=>r.p0
 | 1=>r.p1
 | 2=>r.p2
 | 3=>r.v0
 | 4=>r.v1
 | _=>r.v2
def zA0 (r:zY):Bool:=r.p0==0 && r.p1==0 && r.p2==0 && r.v0==0 && r.v1==0 && r.v2==0 && (((r.a.toNat:Nat):Int)==0)
def zAY (r:zY):Nat:=if r.k<0∨3<r.k then 11 else if r.id<0∨65535<r.id then 3 else if r.k=1∧zA0 r=true∨r.k=2∧zA0 r=false then 2 else 0
theorem zMp (r:zY):zAK [.int .i64 r.k,.int .i64 r.id,.int .i64 r.p0,.int .i64 r.p1,.int .i64 r.p2,.int .i64 r.v0,.int .i64 r.v1,.int .i64 r.v2,.int .u16 ((r.a.toNat:Nat):Int)] [.int .i64 r.k,.int .i64 r.id,.int .i64 0,.int .i64 0,.int .i64 0,.int .i64 0,.int .i64 0,.int .i64 0,.int .u16 0]=zA0 r:=by
 simp [zAK,vEq,zA0,Bool.and_assoc]
theorem zSf (r:zY):zAY r≤11:=by
 unfold zAY;repeat' split
 all_goals omega
theorem zNM {r:zY} (h:zAY r=0):0≤r.k∧r.k≤3∧0≤r.id∧r.id≤65535:=by
 unfold zAY at h
 split at h
 ·cases h
 ·split at h
  ·cases h
  ·omega
def zDd (x:Int):List zQ:=zCX (zGY x).toNat
theorem zAP (x:Int):(zDd x).length≤10∧1≤(zDd x).length:=by
 have:=zC3 (zGY x).toNat
 have:=zC8 (zGY x).toNat
 unfold zDd
 simp only [zBd] at *
 omega
def zBe (r:zY):List zQ:=zDd r.p0++zDd r.p1++zDd r.p2++zDd r.v0++zDd r.v1++zDd r.v2++zCX r.a.toNat
def zA2 (r:zY):Nat→BitVec 8
 | 0=>0#8
 | i+1=>if r.num i=0 then zA2 r i else zA2 r i|||(1#8<<<i)
def zAj (r:zY):Nat→List zQ
 | 0=>[]
 | i+1=>if r.num i=0 then zAj r i else zAj r i++zDd (r.num i)
def zCi (r:zY):BitVec 8:=if r.a=0#16 then zA2 r 6 else zA2 r 6|||64#8
def zGj (r:zY):List zQ:=if r.a=0#16 then zAj r 6 else zAj r 6++zCX r.a.toNat
def zBR (r:zY):List zQ:=zCi r::zGj r
def zEK (r:zY):List zQ:=if r.k=1 then zBR r else if r.k=2 then [] else zBe r
def zA6 (r:zY) (last:Int):Nat:=if zAY r≠0 then zAY r else if last < -1∨65535<last then 3 else if r.id≤last then 10 else 0
def zAe (r:zY) (last:Int):List zQ:=zCX (BitVec.ofInt 64 (r.id-last-1)).toNat++[BitVec.ofInt 8 r.k]
def zCk (r:zY) (last:Int):List zQ:=if zA6 r last≠0 then [] else zAe r last++zEK r
theorem zN5 {r:zY} {i:Nat} (h:r.num i=0):zA2 r (i+1)=zA2 r i:=by simp [zA2,h]
theorem zOl {r:zY} {i:Nat} (h:r.num i≠0):zA2 r (i+1)=zA2 r i|||(1#8<<<i):=by simp [zA2,h]
theorem zHW {r:zY} {i:Nat} (h:r.num i=0):zAj r (i+1)=zAj r i:=by simp [zAj,h]
theorem zHc {r:zY} {i:Nat} (h:r.num i≠0):zAj r (i+1)=zAj r i++zDd (r.num i):=by simp [zAj,h]
theorem zBY (r:zY):∀ i,(zAj r i).length≤10*i:=by
 intro i
 induction i with
 | zero=>simp [zAj]
 | succ i ih =>
  unfold zAj
  have:=zAP (r.num i)
  split
  ·omega
  ·simp;omega
theorem zEV (n:Nat):(zCX n).length≤10:=by have:=zC3 n;simpa [zBd] using this
theorem zIV (r:zY) (last:Int):(zCk r last).length≤100:=by
 unfold zCk
 split
 ·simp
 ·have h1:=zEV (BitVec.ofInt 64 (r.id-last-1)).toNat
  have h2:=zEV r.a.toNat
  have h3:=zBY r 6
  have n0:=zAP r.p0
  have n1:=zAP r.p1
  have n2:=zAP r.p2
  have n3:=zAP r.v0
  have n4:=zAP r.v1
  have n5:=zAP r.v2
  unfold zAe zEK
  split
  ·unfold zBR zGj
   split<;>simp only [List.length_append,List.length_cons,List.length_nil]<;>omega
  ·split
   ·simp only [List.length_append,List.length_cons,List.length_nil];omega
   ·unfold zBe;simp only [List.length_append,List.length_cons,List.length_nil];omega
theorem zOS {bs l:List zQ} {x:zQ} {m:Nat} (h:bs.length=m):(bs++x::l).getD m 0=x:=by
 subst h
 simp [List.getD_eq_getElem?_getD]
theorem zSM {bs l:List zQ} {x y:zQ} {m:Nat} (h:bs.length=m):(bs++x::l).set m y=bs++y::l:=by
 subst h
 simp
theorem zVm (a:BitVec 16):(a.setWidth 64).toNat=a.toNat:=by
 rw [BitVec.toNat_setWidth]
 have:=a.isLt
 omega
theorem zOf {a:BitVec 16} (h:((a.toNat:Nat):Int)=0):a=0#16:=BitVec.eq_of_toNat_eq (by simpa using h)
theorem za6 {a:BitVec 16} (h:((a.toNat:Nat):Int)≠0):a≠0#16:=λe=>h (by subst e;rfl)
theorem zBi {r:zY} (h:((r.a.toNat:Nat):Int)=0):zBR r=zA2 r 6::zAj r 6:=by
 unfold zBR zCi zGj
 rw [if_pos (zOf h),if_pos (zOf h)]
theorem zBg {r:zY} (h:((r.a.toNat:Nat):Int)≠0):zBR r=(zA2 r 6|||64#8)::(zAj r 6++zCX r.a.toNat):=by
 unfold zBR zCi zGj
 rw [if_neg (za6 h),if_neg (za6 h)]
theorem zI1 (r:zY):(zBR r).length≤71:=by
 have h2:=zEV r.a.toNat
 have h3:=zBY r 6
 unfold zBR zGj
 split<;>simp only [List.length_append,List.length_cons]<;>omega
theorem zJ0 (r:zY):(zBe r).length≤70:=by
 have h2:=zEV r.a.toNat
 have n0:=zAP r.p0
 have n1:=zAP r.p1
 have n2:=zAP r.p2
 have n3:=zAP r.v0
 have n4:=zAP r.v1
 have n5:=zAP r.v2
 unfold zBe
 simp only [List.length_append]
 omega
theorem zDo {r:zY} {last:Int} (h:zA6 r last≠0):zCk r last=[]:=by unfold zCk;rw [if_pos h]
theorem zBQ {r:zY} {last:Int} (h:zA6 r last=0) (hk:r.k=0∨r.k=3):zCk r last=zAe r last++zBe r:=by
 unfold zCk zEK
 rw [if_neg (by omega),if_neg (by omega),if_neg (by omega)]
theorem zAb {r:zY} {last:Int} (h:zA6 r last=0) (hk:r.k=1):zCk r last=zAe r last++zBR r:=by
 unfold zCk zEK
 rw [if_neg (by omega),if_pos hk]
theorem zA5 {r:zY} {last:Int} (h:zA6 r last=0) (hk:r.k=2):zCk r last=zAe r last:=by
 unfold zCk zEK
 rw [if_neg (by omega),if_neg (by omega),if_pos hk,List.append_nil]
theorem zCK {r:zY} {last:Int} (h:zAY r≠0):zA6 r last=zAY r:=by unfold zA6;rw [if_pos h]
theorem zCG {r:zY} {last:Int} (h:zAY r=0) (h2:last < -1∨65535<last):zA6 r last=3:=by unfold zA6;rw [if_neg (by omega),if_pos h2]
theorem zCE {r:zY} {last:Int} (h:zAY r=0) (h2:¬ (last < -1∨65535<last)) (h3:r.id≤last):zA6 r last=10:=by unfold zA6;rw [if_neg (by omega),if_neg h2,if_pos h3]
theorem zCr {r:zY} {last:Int} (h:zAY r=0) (h2:¬ (last < -1∨65535<last)) (h3:¬ r.id≤last):zA6 r last=0:=by unfold zA6;rw [if_neg (by omega),if_neg h2,if_neg h3]
theorem zIy (r:zY) (last:Int):(zAe r last).length≤11:=by
 have h1:=zEV (BitVec.ofInt 64 (r.id-last-1)).toNat
 unfold zAe
 simp only [List.length_append,List.length_cons,List.length_nil]
 omega
theorem zC7 {r:zY} {last:Int} (h:zA6 r last=0):0≤r.id∧r.id≤65535 ∧ -1≤last∧last<r.id:=by
 unfold zA6 at h
 split at h
 ·omega
 ·rename_i h0
  have h1:=zNM (r:=r) (by omega)
  split at h
  ·cases h
  ·split at h
   ·cases h
   ·omega
def zWX (m:BitVec 8):Nat→BitVec 8
 | 0=>m
 | i+1=>zWX m i/2#8
theorem zR5 (m:BitVec 8):∀ i,zWX m i=m>>>i
 | 0=>by simp [zWX]
 | i+1=>by
  unfold zWX
  rw [zR5 m i]
  apply BitVec.eq_of_toNat_eq
  rw [BitVec.toNat_udiv,BitVec.toNat_ushiftRight,BitVec.toNat_ushiftRight,Nat.shiftRight_succ]
  rfl
def zBs (m:BitVec 8) (i:Nat):Bool:=((zWX m i).toNat%2)==1
def upI (bs:List zQ) (m:BitVec 8) (i:Nat) (R:Rs):Int×Rs :=
 if zBs m i=true then ((zAE bs R).1,if (zAE bs R).1=0 then zBo 7 (zAE bs R).2 else (zAE bs R).2) else (0,R)
def upS (bs:List zQ) (m:BitVec 8) (R:Rs):Nat→Rs
 | 0=>R
 | i+1=>(upI bs m i (upS bs m R i)).2
def upX (bs:List zQ) (m:BitVec 8) (R:Rs) (i:Nat):Int:=(upI bs m i (upS bs m R i)).1
def upA (bs:List zQ) (m:BitVec 8) (R:Rs):BitVec 16×Rs :=
 if zBs m 6=true then (((zP bs 65535#64 R).1).setWidth 16,if (zP bs 65535#64 R).1=0#64 then zBo 7 (zP bs 65535#64 R).2 else (zP bs 65535#64 R).2) else (0#16,R)
def zBC (bs:List zQ) (k id:Int) (R:Rs):zY×Rs :=
 let q:=zH bs R
 if q.1.toNat=0∨127<q.1.toNat then (⟨k,id,0,0,0,0,0,0,0#16⟩,zBo 7 q.2)
 else (⟨k,id,upX bs q.1 q.2 0,upX bs q.1 q.2 1,upX bs q.1 q.2 2,upX bs q.1 q.2 3,upX bs q.1 q.2 4,upX bs q.1 q.2 5,(upA bs q.1 (upS bs q.1 q.2 6)).1⟩,(upA bs q.1 (upS bs q.1 q.2 6)).2)
def nS (bs:List zQ) (R:Rs):Nat→Rs
 | 0=>R
 | i+1=>(zAE bs (nS bs R i)).2
def nX (bs:List zQ) (R:Rs) (i:Nat):Int:=(zAE bs (nS bs R i)).1
def zCL (bs:List zQ) (k id:Int) (R:Rs):zY×Rs :=
 (⟨k,id,nX bs R 0,nX bs R 1,nX bs R 2,nX bs R 3,nX bs R 4,nX bs R 5,((zP bs 65535#64 (nS bs R 6)).1).setWidth 16⟩,(zP bs 65535#64 (nS bs R 6)).2)
def zBG (bs:List zQ) (k id:Int) (R:Rs):zY×Rs :=
 if k=0∨k=3 then zCL bs k id R else if k=1 then zBC bs k id R else if k=2 then (⟨k,id,0,0,0,0,0,0,0#16⟩,R) else (⟨k,id,0,0,0,0,0,0,0#16⟩,zBo 11 R)
def zNU : zY:=⟨0,0,0,0,0,0,0,0,0#16⟩
def zQw (bs:List zQ) (last:Int) (R:Rs):BitVec 64×Rs:=zP bs (BitVec.ofInt 64 (65534-last)) R
def zEf (bs:List zQ) (last:Int) (R:Rs):zY×Rs :=
 zBG bs (((zH bs (zQw bs last R).2).1.toNat:Nat):Int) (last+1+(((zQw bs last R).1.toNat:Nat):Int)) (zH bs (zQw bs last R).2).2
def zAM (bs:List zQ) (last:Int) (R:Rs):zY×Nat×Rs :=
 if last < -1∨65535<last then (zNU,3,R) else if last=65535 then (zNU,(zBo 10 R).e,zBo 10 R)
 else if (zEf bs last R).2.e≠0 then (zNU,(zEf bs last R).2.e,(zEf bs last R).2) else ((zEf bs last R).1,0,(zEf bs last R).2)
def zcx (r:zY):Nat→List zQ
 | 0=>[]
 | i+1=>zcx r i++zDd (r.num i)
theorem zHF (r:zY):zcx r 6=zDd r.p0++zDd r.p1++zDd r.p2++zDd r.v0++zDd r.v1++zDd r.v2:=rfl
def upQ (bs:List zQ) (m:BitVec 8) (R:Rs) (i j:Nat):Int:=if j<i then upX bs m R j else 0
section
variable {bs : List zQ} {m : BitVec 8} {R : Rs} {i : Nat} {p q z : Value}
theorem zaY (h:upX bs m R i=0) (j:Nat):upQ bs m R i j=upQ bs m R (i+1) j:=by
 unfold upQ
 by_cases h1:j<i
 ·rw [if_pos h1,if_pos (by omega)]
 ·by_cases h2:j=i
  ·subst h2;rw [if_neg h1,if_pos (by omega),h]
  ·rw [if_neg h1,if_neg (by omega)]
theorem six {i:Nat} (h:i<6):i=0∨i=1∨i=2∨i=3∨i=4∨i=5:=by omega
theorem zXF (h:i<6) : [p,q,zI (upQ bs m R i 0),zI (upQ bs m R i 1),zI (upQ bs m R i 2),zI (upQ bs m R i 3),zI (upQ bs m R i 4),zI (upQ bs m R i 5),z].set (2+i) (zI (upX bs m R i))=[p,q,zI (upQ bs m R (i+1) 0),zI (upQ bs m R (i+1) 1),zI (upQ bs m R (i+1) 2),zI (upQ bs m R (i+1) 3),zI (upQ bs m R (i+1) 4),zI (upQ bs m R (i+1) 5),z]:=by
 rcases six h with rfl | rfl | rfl | rfl | rfl | rfl<;>simp [upQ]
theorem zZE (h:i<6) : [p,q,zI (upQ bs m R (i+1) 0),zI (upQ bs m R (i+1) 1),zI (upQ bs m R (i+1) 2),zI (upQ bs m R (i+1) 3),zI (upQ bs m R (i+1) 4),zI (upQ bs m R (i+1) 5),z][2+i]? = some (zI (upX bs m R i)):=by
 rcases six h with rfl | rfl | rfl | rfl | rfl | rfl<;>simp [upQ]
theorem zW6 {g:Nat} (h:i<6) : [pt g 2,pt g 3,pt g 4,pt g 5,pt g 6,pt g 7][((i:Nat):Int).toNat]? = some (pt g (2+i)):=by
 rcases six h with rfl | rfl | rfl | rfl | rfl | rfl<;>rfl
theorem zX7 {r:zY} (hw:r.wf) (h:i<6) : -9223372036854775808≤r.num i∧r.num i≤9223372036854775807:=by
 rcases six h with rfl | rfl | rfl | rfl | rfl | rfl
 · exact hw.p0
 · exact hw.p1
 · exact hw.p2
 · exact hw.v0
 · exact hw.v1
 · exact hw.v2
theorem zQI {r:zY} (h:i<6) : [p,q,zI r.p0,zI r.p1,zI r.p2,zI r.v0,zI r.v1,zI r.v2,z][2+i]? = some (zI (r.num i)):=by
 rcases six h with rfl | rfl | rfl | rfl | rfl | rfl<;>rfl
end
theorem zT7 {m:BitVec 8} {i:Nat}:zBs m i=true↔(zWX m i).toNat%2=1:=by unfold zBs;simp
theorem zWd (m:BitVec 8) (i:Nat):((m>>>i)&&&1#8).toNat=(zWX m i).toNat%2:=by
 rw [BitVec.toNat_and,show (1#8).toNat=1 from rfl,Nat.and_one_is_mod,zR5]
theorem zYI {m:BitVec 8} {i:Nat} (h:((((m>>>i)&&&1#8).toNat:Nat):Int)=0):zBs m i=false:=by
 rw [zWd] at h
 unfold zBs
 rw [show (zWX m i).toNat%2=0 by omega]
 rfl
theorem zYN {m:BitVec 8} {i:Nat} (h:((((m>>>i)&&&1#8).toNat:Nat):Int)≠0):zBs m i=true:=by
 rw [zWd] at h
 rw [zT7]
 omega
theorem zav (m:BitVec 8):(m&&&64#8).toNat=0↔zBs m 6=false:=by
 have key:∀ m:BitVec 8,(m&&&64#8).toNat=0↔zBs m 6=false:=by decide +kernel
 exact key m
theorem zVT {m:BitVec 8} (h:(((m&&&64#8).toNat:Nat):Int)=0):zBs m 6=false:=(zav m).1 (by omega)
theorem zWI {m:BitVec 8} (h:(((m&&&64#8).toNat:Nat):Int)≠0):zBs m 6=true:=by
 cases hb:zBs m 6 with
 | true=>rfl
 | false=>exact absurd ((zav m).2 hb) (by omega)
theorem zY9 {bs:List zQ} {m:BitVec 8} {R:Rs} (h:zBs m 6=false):upA bs m R=(0#16,R):=by unfold upA;rw [if_neg (by rw [h];decide)]
theorem zXs {bs:List zQ} {m:BitVec 8} {R:Rs} (h:zBs m 6=true) (h2:(zP bs 65535#64 R).1.toNat=0):upA bs m R=((zP bs 65535#64 R).1.setWidth 16,zBo 7 (zP bs 65535#64 R).2):=by
 unfold upA
 rw [if_pos h,if_pos (BitVec.eq_of_toNat_eq h2)]
theorem zXh {bs:List zQ} {m:BitVec 8} {R:Rs} (h:zBs m 6=true) (h2:(zP bs 65535#64 R).1.toNat≠0):upA bs m R=((zP bs 65535#64 R).1.setWidth 16,(zP bs 65535#64 R).2):=by
 unfold upA
 rw [if_pos h,if_neg (λe=>h2 (by rw [e];rfl))]
theorem zc3 {X:BitVec 64} (h:X.toNat≤65535):(X.setWidth 16).toNat=X.toNat:=by
 rw [BitVec.toNat_setWidth]
 omega
theorem zHx {X:BitVec 64} (h:X.toNat≤65535):X.toInt=((X.toNat:Nat):Int):=by
 rw [BitVec.toInt_eq_toNat_cond,if_pos (by omega)]
theorem zEI {x:Int} (h:0≤x) (h2:x≤9223372036854775807):(((BitVec.ofInt 64 x).toNat:Nat):Int)=x:=by
 rw [BitVec.toNat_ofInt]
 omega
theorem zc1 {bs:List zQ} {m:BitVec 8} {R:Rs} {i:Nat} (h:zBs m i=true) (h2:(zAE bs (upS bs m R i)).1=0):upS bs m R (i+1)=zBo 7 (zAE bs (upS bs m R i)).2:=by
 show (upI _ _ _ _).2=_
 unfold upI
 rw [if_pos h]
 dsimp only
 rw [if_pos h2]
theorem zc4 {bs:List zQ} {m:BitVec 8} {R:Rs} {i:Nat} (h:zBs m i=true) (h2:(zAE bs (upS bs m R i)).1≠0):upS bs m R (i+1)=(zAE bs (upS bs m R i)).2:=by
 show (upI _ _ _ _).2=_
 unfold upI
 rw [if_pos h]
 dsimp only
 rw [if_neg h2]
theorem zcc {bs:List zQ} {m:BitVec 8} {R:Rs} {i:Nat} (h:zBs m i=true):upX bs m R i=(zAE bs (upS bs m R i)).1:=by
 unfold upX upI
 rw [if_pos h]
theorem zcQ {bs:List zQ} {m:BitVec 8} {R:Rs} {i:Nat} (h:zBs m i=false):upS bs m R (i+1)=upS bs m R i:=by
 show (upI _ _ _ _).2=_
 unfold upI
 rw [if_neg (by rw [h];decide)]
theorem zb8 {bs:List zQ} {m:BitVec 8} {R:Rs} {i:Nat} (h:zBs m i=false):upX bs m R i=0:=by
 unfold upX upI
 rw [if_neg (by rw [h];decide)]
theorem zab {bs:List zQ} {m:BitVec 8} {i:Nat} {R:Rs} (h:R.p≤bs.length):(upI bs m i R).2.p≤bs.length∧R.p≤(upI bs m i R).2.p∧(upI bs m i R).2.p≤R.p+10:=by
 unfold upI
 have h1:=zDX h
 split
 ·dsimp only
  split
  ·have:=zBZ (e:=7) h1.1;omega
  ·omega
 ·dsimp only;omega
theorem zK2 {bs:List zQ} {m:BitVec 8} {R:Rs} (h:R.p≤bs.length):∀ i,(upS bs m R i).p≤bs.length∧R.p≤(upS bs m R i).p∧(upS bs m R i).p≤R.p+10*i
 | 0=>by simp [upS,h]
 | i+1=>by
  have h1:=zK2 h i (m:=m)
  have h2:=zab (m:=m) (i:=i) h1.1
  show (upI _ _ _ _).2.p≤_∧_≤(upI _ _ _ _).2.p∧(upI _ _ _ _).2.p≤_
  omega
theorem zbd {bs:List zQ} {R:Rs} (h:R.p≤bs.length):∀ i,(nS bs R i).p≤bs.length∧R.p≤(nS bs R i).p∧(nS bs R i).p≤R.p+10*i
 | 0=>by simp [nS,h]
 | i+1=>by
  have h1:=zbd h i
  have h2:=zDX h1.1
  show (zAE _ _).2.p≤_∧_≤(zAE _ _).2.p∧(zAE _ _).2.p≤_
  omega
theorem za8 {bs:List zQ} {m:BitVec 8} {R:Rs} (h:R.p≤bs.length):(upA bs m R).2.p≤bs.length∧R.p≤(upA bs m R).2.p:=by
 unfold upA
 have h1:=zA8 (X:=65535#64) h
 split
 ·dsimp only
  split
  ·have:=zBZ (e:=7) h1.1;omega
  ·omega
 ·dsimp only;omega
section
variable {bs : List zQ} {m : BitVec 8} {R : Rs} {i : Nat}
end
theorem zMF {bs:List zQ} {k id:Int} {R:Rs} (h:R.p≤bs.length):(zBC bs k id R).2.p≤bs.length∧R.p≤(zBC bs k id R).2.p:=by
 have h1:=zEF h
 have h2:=zK2 (m:=(zH bs R).1) h1.1 6
 have h3:=za8 (m:=(zH bs R).1) h2.1
 have h4:=zBZ (e:=7) h1.1
 unfold zBC
 dsimp only
 split<;>(dsimp only;omega)
theorem zJh {bs:List zQ} {k id:Int} {R:Rs} (h:R.p≤bs.length):(zCL bs k id R).2.p≤bs.length∧R.p≤(zCL bs k id R).2.p:=by
 have h2:=zbd h 6
 have h3:=zA8 (X:=65535#64) h2.1
 unfold zCL
 dsimp only;omega
theorem zS9 {bs:List zQ} {k id:Int} {R:Rs} (h:R.p≤bs.length):(zBG bs k id R).2.p≤bs.length∧R.p≤(zBG bs k id R).2.p:=by
 unfold zBG
 split
 ·exact zJh h
 ·split
  ·exact zMF h
  ·split
   ·dsimp only;omega
   ·have:=zBZ (e:=11) h;dsimp only;omega
theorem zNJ {bs:List zQ} {last:Int} {R:Rs} (h:R.p≤bs.length):(zAM bs last R).2.2.p≤bs.length∧R.p≤(zAM bs last R).2.2.p:=by
 have h1:(zQw bs last R).2.p≤bs.length∧R.p≤(zQw bs last R).2.p:=by
  have:=zA8 (X:=BitVec.ofInt 64 (65534-last)) h
  unfold zQw
  omega
 have h2:=zEF h1.1
 have h3:(zEf bs last R).2.p≤bs.length∧(zH bs (zQw bs last R).2).2.p≤(zEf bs last R).2.p:=zS9 h2.1
 have h4:=zBZ (e:=10) h
 unfold zAM
 repeat' split
 all_goals (dsimp only;omega)
theorem zMm {α β:Type} {p x:α×β} (h:p=x):p=(x.1,x.2):=h
theorem zFv (bs:List zQ) (last:Int) (R:Rs):zEf bs last R=zBG bs (((zH bs (zP bs (BitVec.ofInt 64 (65534-last)) R).2).1.toNat:Nat):Int) (last+1+(((zP bs (BitVec.ofInt 64 (65534-last)) R).1.toNat:Nat):Int)) (zH bs (zP bs (BitVec.ofInt 64 (65534-last)) R).2).2:=rfl
theorem zGb {bs:List zQ} {k id:Int} {R:Rs} (h:k=0∨k=3):zBG bs k id R=zCL bs k id R:=by unfold zBG;rw [if_pos h]
theorem zIN {bs:List zQ} {k id:Int} {R:Rs} (h:k=1):zBG bs k id R=zBC bs k id R:=by unfold zBG;rw [if_neg (by omega),if_pos h]
theorem zIL {bs:List zQ} {k id:Int} {R:Rs} (h:k=2):zBG bs k id R=(⟨k,id,0,0,0,0,0,0,0#16⟩,R):=by unfold zBG;rw [if_neg (by omega),if_neg (by omega),if_pos h]
theorem zPX {bs:List zQ} {k id:Int} {R:Rs} (h:¬ (k=0∨k=1∨k=2∨k=3)):zBG bs k id R=(⟨k,id,0,0,0,0,0,0,0#16⟩,zBo 11 R):=by unfold zBG;rw [if_neg (by omega),if_neg (by omega),if_neg (by omega)]
theorem zE1 {bs:List zQ} {last:Int} {R:Rs} (h:last < -1∨65535<last):zAM bs last R=(zNU,3,R):=by unfold zAM;rw [if_pos h]
theorem zEn {bs:List zQ} {last:Int} {R:Rs} (h:last=65535):zAM bs last R=(zNU,(zBo 10 R).e,zBo 10 R):=by unfold zAM;rw [if_neg (by omega),if_pos h]
theorem zD9 {bs:List zQ} {last:Int} {R RR:Rs} {rr:zY} (h:¬ (last < -1∨65535<last)) (h2:last≠65535) (hr:zEf bs last R=(rr,RR)) (he:RR.e≠0):zAM bs last R=(zNU,RR.e,RR):=by
 unfold zAM
 rw [if_neg h,if_neg h2,hr,if_pos he]
theorem zFA {bs:List zQ} {last:Int} {R RR:Rs} {rr:zY} (h:¬ (last < -1∨65535<last)) (h2:last≠65535) (hr:zEf bs last R=(rr,RR)) (he:RR.e=0):zAM bs last R=(rr,0,RR):=by
 unfold zAM
 rw [if_neg h,if_neg h2,hr,if_neg (by simpa using he)]
theorem zJU {bs:List zQ} {k id:Int} {R:Rs} (h:(zH bs R).1.toNat=0∨127<(zH bs R).1.toNat):zBC bs k id R=(⟨k,id,0,0,0,0,0,0,0#16⟩,zBo 7 (zH bs R).2):=by
 unfold zBC
 dsimp only
 rw [if_pos h]
theorem zHw {bs:List zQ} {k id:Int} {R:Rs} {A:BitVec 16} {T:Rs} (h:¬ ((zH bs R).1.toNat=0∨127<(zH bs R).1.toNat)) (hA:upA bs (zH bs R).1 (upS bs (zH bs R).1 (zH bs R).2 6)=(A,T)):zBC bs k id R=(⟨k,id,upX bs (zH bs R).1 (zH bs R).2 0,upX bs (zH bs R).1 (zH bs R).2 1,upX bs (zH bs R).1 (zH bs R).2 2,upX bs (zH bs R).1 (zH bs R).2 3,upX bs (zH bs R).1 (zH bs R).2 4,upX bs (zH bs R).1 (zH bs R).2 5,A⟩,T):=by
 unfold zBC
 dsimp only
 rw [if_neg h,hA]
theorem zQR {bs:List zQ} {last:Int} {R:Rs} (h:R.p≤bs.length) (h1 : -1≤last) (h2:last<65535):(((zP bs (BitVec.ofInt 64 (65534-last)) R).1.toNat:Nat):Int)≤65534-last:=by
 have h3:=(zA8 (X:=BitVec.ofInt 64 (65534-last)) h).2.2.2.1
 have h4:=zEI (x:=65534-last) (by omega) (by omega)
 omega
theorem zVB {bs:List zQ} {last:Int} {R:Rs} (h:R.p≤bs.length) (h1 : -1≤last) (h2:last<65535):(zP bs (BitVec.ofInt 64 (65534-last)) R).1.toInt=(((zP bs (BitVec.ofInt 64 (65534-last)) R).1.toNat:Nat):Int):=by
 have:=zQR h h1 h2
 by_cases h5:65534-last≤65535
 · exact zHx (by omega)
 · exact zHx (by omega)
structure zS where
 id:Int
 p0:Int
 p1:Int
 p2:Int
 v0:Int
 v1:Int
 v2:Int
 a:BitVec 16
 g:BitVec 8
instance : Inhabited zS:=⟨⟨0,0,0,0,0,0,0,0#16,0#8⟩⟩
structure zS.wf (r:zS):Prop where
 id : -9223372036854775808≤r.id∧r.id≤9223372036854775807
 p0 : -9223372036854775808≤r.p0∧r.p0≤9223372036854775807
 p1 : -9223372036854775808≤r.p1∧r.p1≤9223372036854775807
 p2 : -9223372036854775808≤r.p2∧r.p2≤9223372036854775807
 v0 : -9223372036854775808≤r.v0∧r.v0≤9223372036854775807
 v1 : -9223372036854775808≤r.v1∧r.v1≤9223372036854775807
 v2 : -9223372036854775808≤r.v2∧r.v2≤9223372036854775807
def zBI (r:zS):List Value:=[.int .i64 r.id,.int .i64 r.p0,.int .i64 r.p1,.int .i64 r.p2,.int .i64 r.v0,.int .i64 r.v1,.int .i64 r.v2,.int .u16 ((r.a.toNat:Nat):Int),.int .u8 ((r.g.toNat:Nat):Int)]
theorem zBa (r:zS):(zBI r).length=9:=rfl
def zAA : zS:=⟨0,0,0,0,0,0,0,0#16,0#8⟩
def zIr (a b:zS):Bool:=zAK (zBI a) (zBI b)
theorem zNF {r s:zS}:zAK (zBI r) (zBI s)=true↔r=s:=by
 constructor
 ·intro h
  cases r;cases s
  simp only [zAK,zBI,vEq,Bool.and_eq_true,beq_iff_eq,Bool.and_true,Bool.true_and] at h
  obtain ⟨h1,h2,h3,h4,h5,h6,h7,h8,h9⟩:=h
  have h8':=BitVec.eq_of_toNat_eq (Int.ofNat.inj h8)
  have h9':=BitVec.eq_of_toNat_eq (Int.ofNat.inj h9)
  subst h1 h2 h3 h4 h5 h6 h7 h8' h9'
  rfl
 ·rintro rfl
  simp [zAK,zBI,vEq]
def zAH (a b:zS):zY×Bool :=
 if zIr a b=true then (zNU,false)
 else if a.g.toNat=b.g.toNat then (⟨1,b.id,IntKind.i64.wrap (b.p0-a.p0),IntKind.i64.wrap (b.p1-a.p1),IntKind.i64.wrap (b.p2-a.p2),IntKind.i64.wrap (b.v0-a.v0),IntKind.i64.wrap (b.v1-a.v1),IntKind.i64.wrap (b.v2-a.v2),b.a-a.a⟩,true)
 else (⟨3,b.id,b.p0,b.p1,b.p2,b.v0,b.v1,b.v2,b.a⟩,true)
def zU (a:zS) (r:zY):zS×Nat :=
 if zAY r≠0 then (zAA,zAY r) else if r.id≠a.id∨r.k=0∨r.k=2 then (zAA,15)
 else if r.k=3 then (⟨a.id,r.p0,r.p1,r.p2,r.v0,r.v1,r.v2,r.a,a.g+1#8⟩,0)
 else (⟨a.id,IntKind.i64.wrap (a.p0+r.p0),IntKind.i64.wrap (a.p1+r.p1),IntKind.i64.wrap (a.p2+r.p2),IntKind.i64.wrap (a.v0+r.v0),IntKind.i64.wrap (a.v1+r.v1),IntKind.i64.wrap (a.v2+r.v2),a.a+r.a,a.g⟩,0)
theorem zEB {x y:Int} (hy : -9223372036854775808≤y∧y≤9223372036854775807):IntKind.i64.wrap (x+IntKind.i64.wrap (y-x))=y:=by
 simp only [IntKind.wrap_i64]
 omega
theorem zD8 {x y:Int} (hx : -9223372036854775808≤x∧x≤9223372036854775807) (hy : -9223372036854775808≤y∧y≤9223372036854775807) (h:IntKind.i64.wrap (y-x)=0):y=x:=by
 simp only [IntKind.wrap_i64] at h
 omega
theorem zBx (x:Int) : -9223372036854775808≤IntKind.i64.wrap x∧IntKind.i64.wrap x≤9223372036854775807:=by
 simp only [IntKind.wrap_i64]
 omega
theorem zFP {a b:zS} (h:zIr a b=true):zAH a b=(zNU,false):=by unfold zAH;rw [if_pos h]
theorem zDZ {a b:zS} (h:zIr a b=false) (h2:a.g.toNat=b.g.toNat):zAH a b=(⟨1,b.id,IntKind.i64.wrap (b.p0-a.p0),IntKind.i64.wrap (b.p1-a.p1),IntKind.i64.wrap (b.p2-a.p2),IntKind.i64.wrap (b.v0-a.v0),IntKind.i64.wrap (b.v1-a.v1),IntKind.i64.wrap (b.v2-a.v2),b.a-a.a⟩,true):=by
 unfold zAH
 rw [if_neg (by rw [h];decide),if_pos h2]
theorem zDU {a b:zS} (h:zIr a b=false) (h2:a.g.toNat≠b.g.toNat):zAH a b=(⟨3,b.id,b.p0,b.p1,b.p2,b.v0,b.v1,b.v2,b.a⟩,true):=by
 unfold zAH
 rw [if_neg (by rw [h];decide),if_neg h2]
theorem zPn {a b:zS} (hb:b.wf):(zAH a b).1.wf:=by
 unfold zAH
 split
 ·exact ⟨by decide,by decide,by decide,by decide,by decide,by decide,by decide,by decide⟩
 ·split
  ·exact ⟨(show -9223372036854775808≤(1:Int)∧(1:Int)≤9223372036854775807 by decide),hb.id,zBx _,zBx _,zBx _,zBx _,zBx _,zBx _⟩
  ·exact ⟨(show -9223372036854775808≤(3:Int)∧(3:Int)≤9223372036854775807 by decide),hb.id,hb.p0,hb.p1,hb.p2,hb.v0,hb.v1,hb.v2⟩
theorem zCJ {a:zS} {r:zY} (h:zAY r≠0):zU a r=(zAA,zAY r):=by unfold zU;rw [if_pos h]
theorem zCd {a:zS} {r:zY} (h:zAY r=0) (h2:r.id≠a.id∨r.k=0∨r.k=2):zU a r=(zAA,15):=by unfold zU;rw [if_neg (by omega),if_pos h2]
theorem zBW {a:zS} {r:zY} (h:zAY r=0) (h2:¬ (r.id≠a.id∨r.k=0∨r.k=2)) (h3:r.k=3):zU a r=(⟨a.id,r.p0,r.p1,r.p2,r.v0,r.v1,r.v2,r.a,a.g+1#8⟩,0):=by
 unfold zU
 rw [if_neg (by omega),if_neg h2,if_pos h3]
theorem zBU {a:zS} {r:zY} (h:zAY r=0) (h2:¬ (r.id≠a.id∨r.k=0∨r.k=2)) (h3:r.k≠3):zU a r=(⟨a.id,IntKind.i64.wrap (a.p0+r.p0),IntKind.i64.wrap (a.p1+r.p1),IntKind.i64.wrap (a.p2+r.p2),IntKind.i64.wrap (a.v0+r.v0),IntKind.i64.wrap (a.v1+r.v1),IntKind.i64.wrap (a.v2+r.v2),a.a+r.a,a.g⟩,0):=by
 unfold zU
 rw [if_neg (by omega),if_neg h2,if_neg h3]
theorem zJe (x y:BitVec 16):x+(y-x)=y:=by
 apply BitVec.eq_of_toNat_eq
 simp only [BitVec.toNat_add,BitVec.toNat_sub]
 have:=x.isLt
 have:=y.isLt
 omega
theorem zOn {A B : zS} (ha : A.wf) (hb : B.wf) (hid : 0 ≤ A.id ∧ A.id ≤ 65535) (he : B.id = A.id) (hg : B.g = A.g ∨ B.g = A.g + 1#8) (hne : (zAH A B).2 = true) :
   zU A (zAH A B).1=(B,0)∧zAY (zAH A B).1=0∧zIr A B=false∧((zAH A B).1.k=3↔B.g≠A.g)∧((zAH A B).1.k=1∨(zAH A B).1.k=3)∧(zAH A B).1.id=B.id:=by
 cases heq:zIr A B with
 | true=>rw [zFP heq] at hne;cases hne
 | false =>
   have hAB:A≠B:=λe=>by
     rw [show zIr A B=true from zNF.2 e] at heq
     cases heq
   by_cases h2:A.g.toNat=B.g.toNat
   · have hgg:B.g=A.g:=(BitVec.eq_of_toNat_eq h2).symm
     have hemp:zA0 (⟨1,B.id,IntKind.i64.wrap (B.p0-A.p0),IntKind.i64.wrap (B.p1-A.p1),IntKind.i64.wrap (B.p2-A.p2),IntKind.i64.wrap (B.v0-A.v0),IntKind.i64.wrap (B.v1-A.v1),IntKind.i64.wrap (B.v2-A.v2),B.a-A.a⟩ : zY)=false:=by
       cases hx:zA0 (⟨1,B.id,IntKind.i64.wrap (B.p0-A.p0),IntKind.i64.wrap (B.p1-A.p1),IntKind.i64.wrap (B.p2-A.p2),IntKind.i64.wrap (B.v0-A.v0),IntKind.i64.wrap (B.v1-A.v1),IntKind.i64.wrap (B.v2-A.v2),B.a-A.a⟩ : zY) with
       | false=>rfl
       | true =>
         exfalso
         simp only [zA0,Bool.and_eq_true,beq_iff_eq] at hx
         obtain ⟨⟨⟨⟨⟨⟨e0,e1⟩,e2⟩,e3⟩,e4⟩,e5⟩,e6⟩:=hx
         have e6':B.a-A.a=0#16:=zOf e6
         have e7:B.a=A.a:=by
           have:=zJe A.a B.a
           rw [e6'] at this
           simpa using this.symm
         apply hAB
         have f0:=zD8 ha.p0 hb.p0 e0
         have f1:=zD8 ha.p1 hb.p1 e1
         have f2:=zD8 ha.p2 hb.p2 e2
         have f3:=zD8 ha.v0 hb.v0 e3
         have f4:=zD8 ha.v1 hb.v1 e4
         have f5:=zD8 ha.v2 hb.v2 e5
         cases A;cases B;simp_all
     have hc:zAY (⟨1,B.id,IntKind.i64.wrap (B.p0-A.p0),IntKind.i64.wrap (B.p1-A.p1),IntKind.i64.wrap (B.p2-A.p2),IntKind.i64.wrap (B.v0-A.v0),IntKind.i64.wrap (B.v1-A.v1),IntKind.i64.wrap (B.v2-A.v2),B.a-A.a⟩ : zY)=0:=by
       unfold zAY
       rw [hemp]
       dsimp only
       rw [if_neg (by omega),if_neg (by omega),if_neg (by simp)]
     rw [zDZ heq h2]
     dsimp only
     refine ⟨?_,hc,rfl,by simp [hgg],by simp,rfl⟩
     rw [zBU hc (by simp [he]) (by simp)]
     simp only [zEB hb.p0,zEB hb.p1,zEB hb.p2,zEB hb.v0,zEB hb.v1,zEB hb.v2,zJe]
     rw [← he,← hgg]
   · have hgg : B.g = A.g + 1#8 := by
       rcases hg with h | h
       · exact absurd (by rw [h]) h2
       · exact h
     have hc:zAY (⟨3,B.id,B.p0,B.p1,B.p2,B.v0,B.v1,B.v2,B.a⟩ : zY)=0:=by
       unfold zAY
       dsimp only
       rw [if_neg (by omega),if_neg (by omega),if_neg (by omega)]
     rw [zDU heq h2]
     dsimp only
     refine ⟨?_,hc,rfl,?_,by simp,rfl⟩
     · rw [zBW hc (by simp [he]) rfl]
       rw [← he,← hgg]
     · exact ⟨λ_ e=>h2 (by rw [e]),λ_=>rfl⟩
theorem zQ4 {A B:zS} (h:(zAH A B).2=false):A=B:=by
 cases heq:zIr A B with
 | true=>exact zNF.1 heq
 | false =>
  by_cases h2:A.g.toNat=B.g.toNat
  ·rw [zDZ heq h2] at h;cases h
  ·rw [zDU heq h2] at h;cases h
structure zc0 where
 k:Int
 m:BitVec 64
 e:BitVec 8
instance : Inhabited zc0:=⟨⟨0,0#64,0#8⟩⟩
theorem zAN {α:Type} {g:α→List Value} {size:Nat} (hg:∀ a,(g a).length=size):∀ (l:List α),(l.flatMap g).length=l.length*size
 | []=>by simp
 | a::l=>by rw [List.flatMap_cons,List.length_append,hg,zAN hg l,List.length_cons,Nat.add_mul];omega
theorem zAZ {α:Type} [Inhabited α] {g:α→List Value} {size:Nat} (hg:∀ a,(g a).length=size):∀ (l:List α) (j:Nat),j<l.length→((l.flatMap g).drop (j*size)).take size=g (l.getD j default)
 | [],j,h=>by simp at h
 | a::l,0,_=>by
  simp only [Nat.zero_mul,List.drop_zero,List.flatMap_cons,List.getD_cons_zero]
  rw [← hg a,List.take_left']
  rfl
 | a::l,j+1,h=>by
  have ih:=zAZ hg l j (by simpa using h)
  rw [List.flatMap_cons,show (j+1)*size=(g a).length+j*size by rw [hg,Nat.add_mul];omega,← List.drop_drop,List.drop_left',List.getD_cons_succ]
  ·exact ih
  ·rfl
theorem zBt {α:Type} [Inhabited α] {g:α→List Value} {size:Nat} (hg:∀ a,(g a).length=size) (l:List α) (j o:Nat) (h:j<l.length) (ho:o<size):(l.flatMap g)[j*size+o]? = (g (l.getD j default))[o]?:=by
 rw [← zAZ hg l j h,List.getElem?_take,if_pos ho,List.getElem?_drop]
def Tr (bs:List zQ) (u:Value) (p:Nat) (u':Value) (p':Nat):Prop:=∀ w' T,Rd w' T u 1 (bs.length-p) (zD (bs.drop p))→Rd w' T u' 1 (bs.length-p') (zD (bs.drop p'))
theorem Tr.refl {bs:List zQ} {u:Value} {p:Nat}:Tr bs u p u p:=λ_ _ h=>h
theorem Tr.trans {bs:List zQ} {u u2 u3:Value} {p p2 p3:Nat} (h:Tr bs u p u2 p2) (h2:Tr bs u2 p2 u3 p3):Tr bs u p u3 p3:=λw T h0=>h2 w T (h w T h0)
theorem zQA {b:List zQ} (h:b.length=0):(zCW b).2.2=5:=by rw [zCS h]
theorem zXV {bs:List zQ} {k:Nat} (h:(zCW (bs.drop k)).2.2≠5):¬ bs.length≤k:=λh2=>h (zQA (by simp only [List.length_drop];omega))
theorem zPh {bs:List zQ} {X:BitVec 64} {R:Rs} (h:R.e=0) (h1:(zCW (bs.drop R.p)).2.2=0) (h2:(zCW (bs.drop R.p)).1.toNat≤X.toNat):zP bs X R=((zCW (bs.drop R.p)).1,⟨R.p+(zCW (bs.drop R.p)).2.1,0⟩):=by
 have hu:zIt (bs.drop R.p) X=0:=by unfold zIt;rw [if_neg (λh=>by omega)];exact h1
 exact zDC h (zXV (by omega)) hu
theorem zOh {bs:List zQ} {R:Rs} (h:R.p≤bs.length):(zAE bs (zAE bs (zAE bs R).2).2).2.p≤bs.length∧R.p≤(zAE bs (zAE bs (zAE bs R).2).2).2.p∧(zAE bs (zAE bs (zAE bs R).2).2).2.p≤R.p+30:=zXI h
structure zDL {α:Type} (bs:List zQ) (c:List zQ) (f:Rs→α×Rs) (v:α):Prop where
 stay:∀ R,R.e=6→(f R).2.e=6
 good:∀ R n rest,R.e=0→R.p≤bs.length→bs.drop R.p=(c++rest).take n→c.length≤n→f R=(v,⟨R.p+c.length,0⟩)
 short:∀ R n rest,R.e=0→R.p≤bs.length→bs.drop R.p=(c++rest).take n→n<c.length→(f R).2.e=6
theorem zMY {bs c rest:List zQ} {p n:Nat} (h:bs.drop p=(c++rest).take n) (hn:c.length≤n) (hp:p≤bs.length):bs.drop (p+c.length)=rest.take (n-c.length)∧p+c.length≤bs.length:=by
 have h1:bs.drop (p+c.length)=(bs.drop p).drop c.length:=by rw [List.drop_drop]
 have h2:=congrArg List.length h
 simp only [List.length_drop,List.length_take,List.length_append] at h2
 refine ⟨?_,by omega⟩
 rw [h1,h,List.take_append,List.drop_append_of_le_length (by rw [List.length_take];omega),List.take_of_length_le hn,List.drop_length,List.nil_append]
theorem zDL.bind {α β:Type} {bs c d:List zQ} {f:Rs→α×Rs} {g:α→Rs→β×Rs} {v:α} {u:β} (hf:zDL bs c f v) (hs:∀ x R,R.e=6→(g x R).2.e=6) (hg:zDL bs d (g v) u):zDL bs (c++d) (λR=>g (f R).1 (f R).2) u:=by
 refine ⟨λR h=>hs _ _ (hf.stay R h),λR n rest h0 hp hd hn=>?_,λR n rest h0 hp hd hn=>?_⟩
 ·rw [List.append_assoc] at hd
  rw [List.length_append] at hn
  have h1:=hf.good R n _ h0 hp hd (by omega)
  obtain ⟨h2,h3⟩:=zMY hd (by omega) hp
  rw [h1]
  dsimp only
  rw [hg.good ⟨R.p+c.length,0⟩ (n-c.length) rest rfl h3 h2 (by omega),List.length_append]
  dsimp only
  rw [Nat.add_assoc]
 ·rw [List.append_assoc] at hd
  rw [List.length_append] at hn
  by_cases hc:c.length≤n
  ·have h1:=hf.good R n _ h0 hp hd hc
   obtain ⟨h2,h3⟩:=zMY hd hc hp
   rw [h1]
   exact hg.short ⟨R.p+c.length,0⟩ (n-c.length) rest rfl h3 h2 (by omega)
  ·exact hs _ _ (hf.short R n _ h0 hp hd (by omega))
theorem zDL.pure {α:Type} {bs:List zQ} (v:α):zDL bs [] (λR=>(v,R)) v:=by
 refine ⟨λR h=>h,λR n rest h0 hp hd hn=>?_,λR n rest h0 hp hd hn=>?_⟩
 · cases R;simp at h0;subst h0;rfl
 · simp at hn
theorem zCh {bs:List zQ} {X L:BitVec 64} (h:X.toNat≤L.toNat):zDL bs (zCX X.toNat) (zP bs L) X:=by
 have hvp:=zC8 X.toNat
 have hl:(zCX X.toNat).length=zBd X.toNat:=rfl
 refine ⟨λR h=>by rw [zCu (by omega)];exact h,λR n rest h0 hp hd hn=>?_,λR n rest h0 hp hd hn=>?_⟩
 · have hd2:bs.drop R.p=zCX X.toNat++rest.take (n-(zCX X.toNat).length):=by rw [hd,List.take_append,List.take_of_length_le hn]
   have hg:=zTl X (rest.take (n-(zCX X.toNat).length))
   rw [← hd2] at hg
   rw [zPh h0 (by rw [hg]) (by rw [hg];exact h),hg]
   rfl
 · have hd2:bs.drop R.p=(zCX X.toNat).take n:=by rw [hd,List.take_append,show n-(zCX X.toNat).length=0 by omega];simp
   by_cases h1:bs.length≤R.p
   · rw [zCc h0 h1]
   · have hn0 : 1 ≤ n := by
       have:=congrArg List.length hd2
       simp only [List.length_drop,List.length_take] at this
       omega
     have hg:=zTL X n hn0 (by omega)
     rw [← hd2] at hg
     have hu:zIt (bs.drop R.p) L=6:=by unfold zIt;rw [hg];simp
     rw [zDt h0 h1 (by omega),hu]
theorem zGd {bs:List zQ} {c:zQ}:zDL bs [c] (zH bs) c:=by
 refine ⟨λR h=>by rw [zD4 (by omega)];exact h,λR n rest h0 hp hd hn=>?_,λR n rest h0 hp hd hn=>?_⟩
 · have hd2 : bs.drop R.p = c :: rest.take (n - 1) := by
     rw [hd]
     simp only [List.length_singleton] at hn
     rw [show n=(n-1)+1 by omega]
     simp
   have hl:=congrArg List.length hd2
   simp only [List.length_drop,List.length_cons] at hl
   have hg:bs.getD R.p 0=c:=by
     have:=congrArg (λl:List zQ=>l.getD 0 0) hd2
     simpa [List.getD_eq_getElem?_getD] using this
   rw [zDy h0 (by omega),hg]
   rfl
 · simp only [List.length_singleton] at hn
   have hn0:n=0:=by omega
   subst hn0
   have hl:=congrArg List.length hd
   simp at hl
   rw [zDW h0 (by omega)]
theorem zCs {bs:List zQ} {x:Int} (h : -9223372036854775808≤x∧x≤9223372036854775807):zDL bs (zDd x) (zAE bs) x:=by
 have ht:=zCh (bs:=bs) (X:=zGY x) (L:=18446744073709551615#64) (by have:=(zGY x).isLt;have h2:(18446744073709551615#64).toNat=18446744073709551615:=rfl;omega)
 refine ⟨λR h=>ht.stay R h,λR n rest h0 hp hd hn=>?_,λR n rest h0 hp hd hn=>ht.short R n rest h0 hp hd hn⟩
 have:=ht.good R n rest h0 hp hd hn
 unfold zAE
 rw [this,zYp x h]
 rfl
theorem zDw {e:Nat} {R:Rs} (h:R.e=6):(zBo e R).e=6:=by unfold zBo;rw [if_neg (by omega)];exact h
theorem zBv {bs:List zQ} {m:BitVec 8} {i:Nat} {R:Rs} (h:R.e=6):(upI bs m i R).2.e=6:=by
 have h1:=(zLK (bs:=bs) (R:=R) (by omega)).2.1
 unfold upI
 split
 ·dsimp only
  split
  ·exact zDw (by omega)
  ·omega
 ·exact h
theorem zEt {bs:List zQ} {m:BitVec 8} {R:Rs} (h:R.e=6):(upA bs m R).2.e=6:=by
 have h1:=(zI6 (bs:=bs) (X:=65535#64) (R:=R) (by omega)).2.1
 unfold upA
 split
 ·dsimp only
  split
  ·exact zDw (by omega)
  ·omega
 ·exact h
def upC (r:zY) (i:Nat):List zQ:=if r.num i=0 then [] else zDd (r.num i)
theorem zVQ {bs:List zQ} {m:BitVec 8} {r:zY} {i:Nat} (hm:zBs m i=true↔r.num i≠0) (h : -9223372036854775808≤r.num i∧r.num i≤9223372036854775807):zDL bs (upC r i) (upI bs m i) (r.num i):=by
 by_cases h0:r.num i=0
 · have hb : zBs m i = false := by
     cases hb:zBs m i with
     | false=>rfl
     | true=>exact absurd h0 (hm.1 hb)
   have:upI bs m i=λR=>(0,R):=by
     funext R
     unfold upI
     rw [if_neg (by rw [hb];decide)]
   rw [this,upC,if_pos h0,h0]
   exact zDL.pure 0
 · have hb:=hm.2 h0
   have ht:=zCs (bs:=bs) h
   rw [upC,if_neg h0]
   refine ⟨λR h=>zBv h,λR n rest h1 hp hd hn=>?_,λR n rest h1 hp hd hn=>?_⟩
   · have:=ht.good R n rest h1 hp hd hn
     unfold upI
     rw [if_pos hb,this]
     dsimp only
     rw [if_neg h0]
   · have:=ht.short R n rest h1 hp hd hn
     unfold upI
     rw [if_pos hb]
     dsimp only
     split
     · exact zDw this
     · exact this
theorem zYF {bs:List zQ} {a:BitVec 16}:zDL bs (zCX a.toNat) (λR=>((zP bs 65535#64 R).1.setWidth 16,(zP bs 65535#64 R).2)) a:=by
 have ht:=zCh (bs:=bs) (X:=a.setWidth 64) (L:=65535#64) (by rw [zVm];have:=a.isLt;have h2:(65535#64).toNat=65535:=rfl;omega)
 rw [zVm] at ht
 refine ⟨λR h=>ht.stay R h,λR n rest h0 hp hd hn=>?_,λR n rest h0 hp hd hn=>ht.short R n rest h0 hp hd hn⟩
 have:=ht.good R n rest h0 hp hd hn
 rw [this]
 dsimp only
 congr 1
 apply BitVec.eq_of_toNat_eq
 simp
theorem zSc {bs:List zQ} {m:BitVec 8} {a:BitVec 16} (hm:zBs m 6=true↔a≠0#16):zDL bs (if a=0#16 then [] else zCX a.toNat) (upA bs m) a:=by
 by_cases h0:a=0#16
 · have hb : zBs m 6 = false := by
     cases hb:zBs m 6 with
     | false=>rfl
     | true=>exact absurd h0 (hm.1 hb)
   have:upA bs m=λR=>(0#16,R):=by
     funext R
     unfold upA
     rw [if_neg (by rw [hb];decide)]
   rw [this,if_pos h0,h0]
   exact zDL.pure _
 · have hb:=hm.2 h0
   rw [if_neg h0]
   have ht:=zCh (bs:=bs) (X:=a.setWidth 64) (L:=65535#64) (by rw [zVm];have:=a.isLt;have h2:(65535#64).toNat=65535:=rfl;omega)
   rw [zVm] at ht
   have hne:a.setWidth 64≠0#64:=λe=>h0 (BitVec.eq_of_toNat_eq (by rw [← zVm a,e];rfl))
   refine ⟨λR h=>zEt h,λR n rest h1 hp hd hn=>?_,λR n rest h1 hp hd hn=>?_⟩
   · have:=ht.good R n rest h1 hp hd hn
     unfold upA
     rw [if_pos hb,this]
     dsimp only
     rw [if_neg hne]
     congr 1
     apply BitVec.eq_of_toNat_eq
     simp
   · have:=ht.short R n rest h1 hp hd hn
     unfold upA
     rw [if_pos hb]
     dsimp only
     split
     · exact zDw this
     · exact this
def zEv (b0 b1 b2 b3 b4 b5 b6:Bool):BitVec 8 :=
 let m0:=bif b0 then 0#8|||(1#8<<<0) else 0#8
 let m1:=bif b1 then m0|||(1#8<<<1) else m0
 let m2:=bif b2 then m1|||(1#8<<<2) else m1
 let m3:=bif b3 then m2|||(1#8<<<3) else m2
 let m4:=bif b4 then m3|||(1#8<<<4) else m3
 let m5:=bif b5 then m4|||(1#8<<<5) else m4
 bif b6 then m5|||64#8 else m5
theorem zZM {α:Type} {p:Prop} [Decidable p] (x y:α):(if p then x else y)=bif decide (¬ p) then y else x:=by by_cases h:p<;>simp [h]
theorem zYi (r:zY):zCi r=zEv (decide (r.p0≠0)) (decide (r.p1≠0)) (decide (r.p2≠0)) (decide (r.v0≠0)) (decide (r.v1≠0)) (decide (r.v2≠0)) (decide (r.a≠0#16)):=by
 simp only [zCi,zA2,zY.num,zEv,zZM]
theorem zMo : ∀ b0 b1 b2 b3 b4 b5 b6:Bool,zBs (zEv b0 b1 b2 b3 b4 b5 b6) 0=b0∧zBs (zEv b0 b1 b2 b3 b4 b5 b6) 1=b1∧zBs (zEv b0 b1 b2 b3 b4 b5 b6) 2=b2∧zBs (zEv b0 b1 b2 b3 b4 b5 b6) 3=b3∧zBs (zEv b0 b1 b2 b3 b4 b5 b6) 4=b4∧zBs (zEv b0 b1 b2 b3 b4 b5 b6) 5=b5∧zBs (zEv b0 b1 b2 b3 b4 b5 b6) 6=b6∧(zEv b0 b1 b2 b3 b4 b5 b6).toNat≤127∧((zEv b0 b1 b2 b3 b4 b5 b6).toNat=0→b0=false∧b1=false∧b2=false∧b3=false∧b4=false∧b5=false∧b6=false):=by
 intro b0 b1 b2 b3 b4 b5 b6
 cases b0<;>cases b1<;>cases b2<;>cases b3<;>cases b4<;>cases b5<;>cases b6<;>exact ⟨by decide,by decide,by decide,by decide,by decide,by decide,by decide,by decide,by decide⟩
theorem zTO (r:zY):(∀ i,i<6→(zBs (zCi r) i=true↔r.num i≠0))∧(zBs (zCi r) 6=true↔r.a≠0#16)∧(zCi r).toNat≤127∧((zCi r).toNat=0→zA0 r=true):=by
 have h:=zMo (decide (r.p0≠0)) (decide (r.p1≠0)) (decide (r.p2≠0)) (decide (r.v0≠0)) (decide (r.v1≠0)) (decide (r.v2≠0)) (decide (r.a≠0#16))
 rw [← zYi] at h
 obtain ⟨h0,h1,h2,h3,h4,h5,h6,h7,h8⟩:=h
 refine ⟨λi hi=>?_,by rw [h6,decide_eq_true_iff],h7,λhz=>?_⟩
 ·match i,hi with
  | 0,_=>rw [h0,decide_eq_true_iff];rfl
  | 1,_=>rw [h1,decide_eq_true_iff];rfl
  | 2,_=>rw [h2,decide_eq_true_iff];rfl
  | 3,_=>rw [h3,decide_eq_true_iff];rfl
  | 4,_=>rw [h4,decide_eq_true_iff];rfl
  | 5,_=>rw [h5,decide_eq_true_iff];rfl
 ·obtain ⟨e0,e1,e2,e3,e4,e5,e6⟩:=h8 hz
  simp only [decide_eq_false_iff_not,ne_eq,Decidable.not_not] at e0 e1 e2 e3 e4 e5 e6
  simp [zA0,e0,e1,e2,e3,e4,e5,e6]
theorem zY.wf.num {r:zY} (h:r.wf) (i:Nat) : -9223372036854775808≤r.num i∧r.num i≤9223372036854775807:=by
 match i with
 | 0=>exact h.p0
 | 1=>exact h.p1
 | 2=>exact h.p2
 | 3=>exact h.v0
 | 4=>exact h.v1
 | _+5=>exact h.v2
theorem zAw {bs:List zQ} {R:Rs} (h:R.e=6):(zAE bs R).2.e=6:=by have:=(zLK (bs:=bs) (R:=R) (by omega)).2.1;omega
theorem zDY {bs:List zQ} {X:BitVec 64} {R:Rs} (h:R.e=6):(zP bs X R).2.e=6:=by have:=(zI6 (bs:=bs) (X:=X) (R:=R) (by omega)).2.1;omega
theorem zLe {bs:List zQ} {R:Rs} (h:R.e=6):(zH bs R).2.e=6:=by have:=(zO4 (bs:=bs) (R:=R) (by omega)).2.1;omega
theorem zQ0 {bs:List zQ} {r:zY} (hw:r.wf):zDL bs (zBe r) (zCL bs r.k r.id) r:=by
 have h6:=(zYF (bs:=bs) (a:=r.a)).bind (g:=λx R=>((⟨r.k,r.id,r.p0,r.p1,r.p2,r.v0,r.v1,r.v2,x⟩ : zY),R)) (λx R h=>h) (zDL.pure _)
 have h5:=(zCs (bs:=bs) hw.v2).bind (g:=λx R=>((⟨r.k,r.id,r.p0,r.p1,r.p2,r.v0,r.v1,x,(zP bs 65535#64 R).1.setWidth 16⟩ : zY),(zP bs 65535#64 R).2)) (λx R h=>zDY h) h6
 have h4:=(zCs (bs:=bs) hw.v1).bind (g:=λx R=>((⟨r.k,r.id,r.p0,r.p1,r.p2,r.v0,x,(zAE bs R).1,(zP bs 65535#64 (zAE bs R).2).1.setWidth 16⟩ : zY),(zP bs 65535#64 (zAE bs R).2).2)) (λx R h=>zDY (zAw h)) h5
 have h3:=(zCs (bs:=bs) hw.v0).bind (g:=λx R=>((⟨r.k,r.id,r.p0,r.p1,r.p2,x,(zAE bs R).1,(zAE bs (zAE bs R).2).1,(zP bs 65535#64 (zAE bs (zAE bs R).2).2).1.setWidth 16⟩ : zY),(zP bs 65535#64 (zAE bs (zAE bs R).2).2).2)) (λx R h=>zDY (zAw (zAw h))) h4
 have h2:=(zCs (bs:=bs) hw.p2).bind (g:=λx R=>((⟨r.k,r.id,r.p0,r.p1,x,(zAE bs R).1,(zAE bs (zAE bs R).2).1,(zAE bs (zAE bs (zAE bs R).2).2).1,(zP bs 65535#64 (zAE bs (zAE bs (zAE bs R).2).2).2).1.setWidth 16⟩ : zY),(zP bs 65535#64 (zAE bs (zAE bs (zAE bs R).2).2).2).2)) (λx R h=>zDY (zAw (zAw (zAw h)))) h3
 have h1:=(zCs (bs:=bs) hw.p1).bind (g:=λx R=>((⟨r.k,r.id,r.p0,x,(zAE bs R).1,(zAE bs (zAE bs R).2).1,(zAE bs (zAE bs (zAE bs R).2).2).1,(zAE bs (zAE bs (zAE bs (zAE bs R).2).2).2).1,(zP bs 65535#64 (zAE bs (zAE bs (zAE bs (zAE bs R).2).2).2).2).1.setWidth 16⟩ : zY),(zP bs 65535#64 (zAE bs (zAE bs (zAE bs (zAE bs R).2).2).2).2).2)) (λx R h=>zDY (zAw (zAw (zAw (zAw h))))) h2
 have h0:=(zCs (bs:=bs) hw.p0).bind (g:=λx R=>((⟨r.k,r.id,x,(zAE bs R).1,(zAE bs (zAE bs R).2).1,(zAE bs (zAE bs (zAE bs R).2).2).1,(zAE bs (zAE bs (zAE bs (zAE bs R).2).2).2).1,(zAE bs (zAE bs (zAE bs (zAE bs (zAE bs R).2).2).2).2).1,(zP bs 65535#64 (zAE bs (zAE bs (zAE bs (zAE bs (zAE bs R).2).2).2).2).2).1.setWidth 16⟩ : zY),(zP bs 65535#64 (zAE bs (zAE bs (zAE bs (zAE bs (zAE bs R).2).2).2).2).2).2)) (λx R h=>zDY (zAw (zAw (zAw (zAw (zAw h)))))) h1
 have e:zCL bs r.k r.id=λR=>((⟨r.k,r.id,(zAE bs R).1,(zAE bs (zAE bs R).2).1,(zAE bs (zAE bs (zAE bs R).2).2).1,(zAE bs (zAE bs (zAE bs (zAE bs R).2).2).2).1,(zAE bs (zAE bs (zAE bs (zAE bs (zAE bs R).2).2).2).2).1,(zAE bs (zAE bs (zAE bs (zAE bs (zAE bs (zAE bs R).2).2).2).2).2).1,(zP bs 65535#64 (zAE bs (zAE bs (zAE bs (zAE bs (zAE bs (zAE bs R).2).2).2).2).2).2).1.setWidth 16⟩ : zY),(zP bs 65535#64 (zAE bs (zAE bs (zAE bs (zAE bs (zAE bs (zAE bs R).2).2).2).2).2).2).2):=by
  funext R
  simp only [zCL,nX,nS]
 rw [e]
 simpa [zBe,List.append_assoc] using h0
theorem zQ8 {bs:List zQ} {m:BitVec 8} {R:Rs} (h:R.e=6):∀ i,(upS bs m R i).e=6
 | 0=>h
 | i+1=>zBv (zQ8 h i)
def zMl (bs:List zQ) (k id:Int) (m:BitVec 8) (R:Rs):zY×Rs :=
 if m.toNat=0∨127<m.toNat then (⟨k,id,0,0,0,0,0,0,0#16⟩,zBo 7 R)
 else (⟨k,id,upX bs m R 0,upX bs m R 1,upX bs m R 2,upX bs m R 3,upX bs m R 4,upX bs m R 5,(upA bs m (upS bs m R 6)).1⟩,(upA bs m (upS bs m R 6)).2)
theorem zJM (bs:List zQ) (k id:Int):zBC bs k id=λR=>zMl bs k id (zH bs R).1 (zH bs R).2:=by
 funext R
 unfold zBC zMl
 rfl
theorem zK5 {bs:List zQ} {k id:Int} {m:BitVec 8} {R:Rs} (h:R.e=6):(zMl bs k id m R).2.e=6:=by
 unfold zMl
 split
 · exact zDw h
 · exact zEt (zQ8 h 6)
theorem zKQ (r:zY):zAj r 6=upC r 0++(upC r 1++(upC r 2++(upC r 3++(upC r 4++upC r 5)))):=by
 have h:∀ i,zAj r (i+1)=zAj r i++upC r i:=λi=>by
  show (if r.num i=0 then _ else _)=_
  unfold upC
  split<;>simp
 rw [h 5,h 4,h 3,h 2,h 1,h 0]
 simp [zAj]
def upW (r:zY):List zQ:=if r.a=0#16 then [] else zCX r.a.toNat
theorem zPC (r:zY):zBR r=[zCi r]++(upC r 0++(upC r 1++(upC r 2++(upC r 3++(upC r 4++(upC r 5++upW r)))))):=by
 unfold zBR zGj upW
 rw [zKQ]
 split<;>simp
theorem zPG {bs:List zQ} {r:zY} (hw:r.wf) (hne:zA0 r=false):zDL bs (zBR r) (zBC bs r.k r.id) r:=by
 obtain ⟨hb,h6,h7,h8⟩:=zTO r
 have hm0:¬ ((zCi r).toNat=0∨127<(zCi r).toNat):=by
  rintro (h | h)
  ·rw [h8 h] at hne;cases hne
  ·omega
 rw [zPC,zJM]
 refine zGd.bind (g:=λm R=>zMl bs r.k r.id m R) (λx R h=>zK5 h) ?_
 generalize hM:zCi r=m at *
 have e:(λR=>zMl bs r.k r.id m R)=λR=>(⟨r.k,r.id,(upI bs m 0 R).1,(upI bs m 1 (upI bs m 0 R).2).1,(upI bs m 2 (upI bs m 1 (upI bs m 0 R).2).2).1,(upI bs m 3 (upI bs m 2 (upI bs m 1 (upI bs m 0 R).2).2).2).1,(upI bs m 4 (upI bs m 3 (upI bs m 2 (upI bs m 1 (upI bs m 0 R).2).2).2).2).1,(upI bs m 5 (upI bs m 4 (upI bs m 3 (upI bs m 2 (upI bs m 1 (upI bs m 0 R).2).2).2).2).2).1,(upA bs m (upI bs m 5 (upI bs m 4 (upI bs m 3 (upI bs m 2 (upI bs m 1 (upI bs m 0 R).2).2).2).2).2).2).1⟩,(upA bs m (upI bs m 5 (upI bs m 4 (upI bs m 3 (upI bs m 2 (upI bs m 1 (upI bs m 0 R).2).2).2).2).2).2).2):=by
  funext R
  unfold zMl
  rw [if_neg hm0]
  rfl
 rw [e]
 have hn:=λi hi=>zVQ (bs:=bs) (hb i hi) (hw.num i)
 have q6:=(zSc (bs:=bs) h6).bind (g:=λx R=>((⟨r.k,r.id,r.p0,r.p1,r.p2,r.v0,r.v1,r.v2,x⟩ : zY),R)) (λx R h=>h) (zDL.pure _)
 have q5:=(hn 5 (by omega)).bind (g:=λx R=>((⟨r.k,r.id,r.p0,r.p1,r.p2,r.v0,r.v1,x,(upA bs m R).1⟩ : zY),(upA bs m R).2)) (λx R h=>zEt h) q6
 have q4:=(hn 4 (by omega)).bind (g:=λx R=>((⟨r.k,r.id,r.p0,r.p1,r.p2,r.v0,x,(upI bs m 5 R).1,(upA bs m (upI bs m 5 R).2).1⟩ : zY),(upA bs m (upI bs m 5 R).2).2)) (λx R h=>zEt (zBv h)) q5
 have q3:=(hn 3 (by omega)).bind (g:=λx R=>((⟨r.k,r.id,r.p0,r.p1,r.p2,x,(upI bs m 4 R).1,(upI bs m 5 (upI bs m 4 R).2).1,(upA bs m (upI bs m 5 (upI bs m 4 R).2).2).1⟩ : zY),(upA bs m (upI bs m 5 (upI bs m 4 R).2).2).2)) (λx R h=>zEt (zBv (zBv h))) q4
 have q2:=(hn 2 (by omega)).bind (g:=λx R=>((⟨r.k,r.id,r.p0,r.p1,x,(upI bs m 3 R).1,(upI bs m 4 (upI bs m 3 R).2).1,(upI bs m 5 (upI bs m 4 (upI bs m 3 R).2).2).1,(upA bs m (upI bs m 5 (upI bs m 4 (upI bs m 3 R).2).2).2).1⟩ : zY),(upA bs m (upI bs m 5 (upI bs m 4 (upI bs m 3 R).2).2).2).2)) (λx R h=>zEt (zBv (zBv (zBv h)))) q3
 have q1:=(hn 1 (by omega)).bind (g:=λx R=>((⟨r.k,r.id,r.p0,x,(upI bs m 2 R).1,(upI bs m 3 (upI bs m 2 R).2).1,(upI bs m 4 (upI bs m 3 (upI bs m 2 R).2).2).1,(upI bs m 5 (upI bs m 4 (upI bs m 3 (upI bs m 2 R).2).2).2).1,(upA bs m (upI bs m 5 (upI bs m 4 (upI bs m 3 (upI bs m 2 R).2).2).2).2).1⟩ : zY),(upA bs m (upI bs m 5 (upI bs m 4 (upI bs m 3 (upI bs m 2 R).2).2).2).2).2)) (λx R h=>zEt (zBv (zBv (zBv (zBv h))))) q2
 have q0:=(hn 0 (by omega)).bind (g:=λx R=>((⟨r.k,r.id,x,(upI bs m 1 R).1,(upI bs m 2 (upI bs m 1 R).2).1,(upI bs m 3 (upI bs m 2 (upI bs m 1 R).2).2).1,(upI bs m 4 (upI bs m 3 (upI bs m 2 (upI bs m 1 R).2).2).2).1,(upI bs m 5 (upI bs m 4 (upI bs m 3 (upI bs m 2 (upI bs m 1 R).2).2).2).2).1,(upA bs m (upI bs m 5 (upI bs m 4 (upI bs m 3 (upI bs m 2 (upI bs m 1 R).2).2).2).2).2).1⟩ : zY),(upA bs m (upI bs m 5 (upI bs m 4 (upI bs m 3 (upI bs m 2 (upI bs m 1 R).2).2).2).2).2).2)) (λx R h=>zEt (zBv (zBv (zBv (zBv (zBv h)))))) q1
 simpa [upW,zY.num] using q0
theorem zPa {r:zY} (h:zA0 r=true):r=⟨r.k,r.id,0,0,0,0,0,0,0#16⟩:=by
 simp only [zA0,Bool.and_eq_true,beq_iff_eq] at h
 obtain ⟨⟨⟨⟨⟨⟨e0,e1⟩,e2⟩,e3⟩,e4⟩,e5⟩,e6⟩:=h
 have e6':=zOf e6
 cases r
 simp_all
theorem zEy {r:zY} (h:zAY r=0):0≤r.k∧r.k≤3∧0≤r.id∧r.id≤65535∧(r.k=1→zA0 r=false)∧(r.k=2→zA0 r=true):=by
 unfold zAY at h
 split at h
 ·cases h
 ·split at h
  ·cases h
  ·split at h
   ·cases h
   ·rename_i h1 h2 h3
    refine ⟨by omega,by omega,by omega,by omega,λhk=>?_,λhk=>?_⟩
    ·cases he:zA0 r with
     | false=>rfl
     | true=>exact absurd (.inl ⟨hk,he⟩) h3
    ·cases he:zA0 r with
     | true=>rfl
     | false=>exact absurd (.inr ⟨hk,he⟩) h3
theorem zQ1 {bs:List zQ} {k id:Int} {R:Rs} (h:R.e=6):(zCL bs k id R).2.e=6:=by
 simp only [zCL,nS]
 exact zDY (zAw (zAw (zAw (zAw (zAw (zAw h))))))
theorem zJJ {bs:List zQ} {k id:Int} {R:Rs} (h:R.e=6):(zBG bs k id R).2.e=6:=by
 unfold zBG
 split
 ·exact zQ1 h
 ·split
  ·rw [zJM];exact zK5 (zLe h)
  ·split
   ·exact h
   ·exact zDw h
theorem zOt {bs:List zQ} {r:zY} (hw:r.wf) (hc:zAY r=0):zDL bs (zEK r) (zBG bs r.k r.id) r:=by
 obtain ⟨h1,h2,h3,h4,h5,h6⟩:=zEy hc
 by_cases hk1:r.k=1
 · have:zBG bs r.k r.id=zBC bs r.k r.id:=by funext R;exact zIN hk1
   rw [this,zEK,if_pos hk1]
   exact zPG hw (h5 hk1)
 · by_cases hk2:r.k=2
   · have : zBG bs r.k r.id = fun R => (r, R) := by
       funext R
       rw [zIL hk2]
       exact congrArg (·,R) (zPa (h6 hk2)).symm
     rw [this,zEK,if_neg hk1,if_pos hk2]
     exact zDL.pure r
   · have:zBG bs r.k r.id=zCL bs r.k r.id:=by funext R;exact zGb (by omega)
     rw [this,zEK,if_neg hk1,if_neg hk2]
     exact zQ0 hw
theorem zHE {r:zY} {last:Int} (h:zA6 r last=0):zAY r=0 ∧ -1≤last∧last≤65535∧last<r.id:=by
 unfold zA6 at h
 split at h
 ·omega
 ·split at h
  ·cases h
  ·split at h
   ·cases h
   ·omega
theorem zQB {bs:List zQ} {r:zY} {last:Int} (hw:r.wf) (he:zA6 r last=0):zDL bs (zCk r last) (zEf bs last) r:=by
 obtain ⟨hc,h1,h2,h3⟩:=zHE he
 obtain ⟨c1,c2,c3,c4,_,_⟩:=zEy hc
 have hX:(((BitVec.ofInt 64 (r.id-last-1)).toNat:Nat):Int)=r.id-last-1:=zEI (by omega) (by omega)
 have hL:(((BitVec.ofInt 64 (65534-last)).toNat:Nat):Int)=65534-last:=zEI (by omega) (by omega)
 have hk:(((BitVec.ofInt 8 r.k).toNat:Nat):Int)=r.k:=by rw [BitVec.toNat_ofInt];omega
 rw [zCk,if_neg (by omega),zAe,List.append_assoc]
 have q2:=zOt (bs:=bs) hw hc
 have e2:zBG bs r.k r.id=(λ(x:zQ) R=>zBG bs (((x.toNat:Nat):Int)) (last+1+(((BitVec.ofInt 64 (r.id-last-1)).toNat:Nat):Int)) R) (BitVec.ofInt 8 r.k):=by
  funext R
  dsimp only
  rw [hk,hX,show last+1+(r.id-last-1)=r.id by omega]
 rw [e2] at q2
 have q1:=(zGd (bs:=bs) (c:=BitVec.ofInt 8 r.k)).bind (g:=λ(x:zQ) R=>zBG bs ((x.toNat:Nat):Int) (last+1+(((BitVec.ofInt 64 (r.id-last-1)).toNat:Nat):Int)) R) (λx R h=>zJJ h) q2
 have q0:=(zCh (bs:=bs) (X:=BitVec.ofInt 64 (r.id-last-1)) (L:=BitVec.ofInt 64 (65534-last)) (by omega)).bind
  (g:=λX R=>zBG bs (((zH bs R).1.toNat:Nat):Int) (last+1+((X.toNat:Nat):Int)) (zH bs R).2) (λx R h=>zJJ (zLe h)) q1
 exact q0
theorem zXJ {bs rest : List zQ} {r : zY} {last : Int} {p n : Nat} (hw : r.wf) (he : zA6 r last = 0) (hp : p ≤ bs.length) (hd : bs.drop p = (zCk r last ++ rest).take n) :
   ((zCk r last).length≤n→zAM bs last ⟨p,0⟩=(r,0,⟨p+(zCk r last).length,0⟩))∧(n<(zCk r last).length→(zAM bs last ⟨p,0⟩).1=zNU∧(zAM bs last ⟨p,0⟩).2.1=6):=by
 have ht:=zQB (bs:=bs) hw he
 obtain ⟨hc,h1,h2,h3⟩:=zHE he
 obtain ⟨c1,c2,c3,c4,_,_⟩:=zEy hc
 refine ⟨λhn=>?_,λhn=>?_⟩
 · exact zFA (by omega) (by omega) (ht.good ⟨p,0⟩ n rest rfl hp hd hn) rfl
 · have h6:=ht.short ⟨p,0⟩ n rest rfl hp hd hn
   rw [zD9 (rr:=(zEf bs last ⟨p,0⟩).1) (RR:=(zEf bs last ⟨p,0⟩).2) (by omega) (by omega) rfl (by omega)]
   exact ⟨rfl,h6⟩
theorem zZX {bs rest:List zQ} {r:zY} {last:Int} {p:Nat} (hw:r.wf) (he:zA6 r last=0) (hp:p≤bs.length) (hd:bs.drop p=zCk r last++rest):zAM bs last ⟨p,0⟩=(r,0,⟨p+(zCk r last).length,0⟩) :=
 (zXJ (n:=(zCk r last++rest).length) hw he hp (by rw [List.take_length];exact hd)).1 (by simp)
theorem zI2 {bs:List zQ} {R:Rs} (i:Nat) : -9223372036854775808≤nX bs R i∧nX bs R i≤9223372036854775807:=by
 unfold nX zAE
 exact zF7 _
theorem zV5 {bs:List zQ} {k id:Int} {R:Rs} (hk : -9223372036854775808≤k∧k≤9223372036854775807) (hi : -9223372036854775808≤id∧id≤9223372036854775807):(zCL bs k id R).1.wf:=by
 unfold zCL
 dsimp only
 exact ⟨hk,hi,zI2 (bs:=bs) (R:=R) 0,zI2 (bs:=bs) (R:=R) 1,zI2 (bs:=bs) (R:=R) 2,zI2 (bs:=bs) (R:=R) 3,zI2 (bs:=bs) (R:=R) 4,zI2 (bs:=bs) (R:=R) 5⟩
theorem zGp {bs:List zQ} {m:BitVec 8} {R:Rs} (i:Nat) : -9223372036854775808≤upX bs m R i∧upX bs m R i≤9223372036854775807:=by
 unfold upX upI
 split
 ·unfold zAE
  exact zF7 _
 ·show -9223372036854775808≤(0:Int)∧(0:Int)≤9223372036854775807
  decide
theorem zRI {bs:List zQ} {k id:Int} {R:Rs} (hk : -9223372036854775808≤k∧k≤9223372036854775807) (hi : -9223372036854775808≤id∧id≤9223372036854775807):(zBC bs k id R).1.wf:=by
 have hz : -9223372036854775808≤(0:Int)∧(0:Int)≤9223372036854775807:=by decide
 unfold zBC
 dsimp only
 split
 · exact ⟨hk,hi,hz,hz,hz,hz,hz,hz⟩
 · exact ⟨hk,hi,zGp 0,zGp 1,zGp 2,zGp 3,zGp 4,zGp 5⟩
theorem zSd {bs:List zQ} {k id:Int} {R:Rs} (hk : -9223372036854775808≤k∧k≤9223372036854775807) (hi : -9223372036854775808≤id∧id≤9223372036854775807):(zBG bs k id R).1.wf∧(zBG bs k id R).1.k=k∧(zBG bs k id R).1.id=id:=by
 have hz : -9223372036854775808≤(0:Int)∧(0:Int)≤9223372036854775807:=by decide
 unfold zBG
 split
 ·exact ⟨zV5 hk hi,rfl,rfl⟩
 ·split
  ·refine ⟨zRI hk hi,?_,?_⟩<;>(unfold zBC;dsimp only;split<;>rfl)
  ·split<;>exact ⟨⟨hk,hi,hz,hz,hz,hz,hz,hz⟩,rfl,rfl⟩
theorem zM2 : zNU.wf:=⟨by decide,by decide,by decide,by decide,by decide,by decide,by decide,by decide⟩
theorem zTa {bs:List zQ} {last:Int} {R:Rs} (hp:R.p≤bs.length):(zAM bs last R).1.wf:=by
 unfold zAM
 split
 ·exact zM2
 ·split
  ·exact zM2
  ·split
   ·exact zM2
   ·rename_i h1 h2 h3
    have h4:=zQR (bs:=bs) (last:=last) hp (by omega) (by omega)
    have h5:=(zH bs (zQw bs last R).2).1.isLt
    exact (zSd (by omega) (by change _≤last+1+(((zP bs (BitVec.ofInt 64 (65534-last)) R).1.toNat:Nat):Int)∧last+1+(((zP bs (BitVec.ofInt 64 (65534-last)) R).1.toNat:Nat):Int)≤_;omega)).1
end Go.Sx
