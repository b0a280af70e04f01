import Derived.Test.YtljpfgacpofkpaaGreatQSxBasB
import Derived.Test.YtljpfgacpofkpaaGreatQSxRecs
import Derived.Lib.Mul64
import Derived.Test.YtljpfgacpofkpaaGreatQSxStos
set_option linter.unusedVariables false
set_option linter.unusedSimpArgs false
namespace Go.Sx
theorem zRc {u v yn1 yn0 un1:Nat} (hv:v=yn1*4294967296+yn0) (h1:2147483648≤yn1) (hun:un1<4294967296):(u*4294967296+un1)/v≤u/yn1:=by
 have e:(u*4294967296+un1)/(yn1*4294967296)=u/yn1:=by
  rw [Nat.mul_comm yn1,← Nat.div_div_eq_div_mul]
  congr 1
  omega
 rw [← e]
 exact Nat.div_le_div_left (by omega) (by omega)
theorem zND (q yn1 yn0:Nat):q*(yn1*4294967296+yn0)=q*yn1*4294967296+q*yn0:=by rw [Nat.mul_add,Nat.mul_assoc]
theorem zTy {u v yn1 yn0 un1 q r:Nat} (hv:v=yn1*4294967296+yn0) (hu:u<v) (hun:un1<4294967296) (hq:q*yn1+r=u) (hc:4294967296≤q∨4294967296*r+un1<q*yn0):(u*4294967296+un1)/v≤q-1:=by
 have h:u*4294967296+un1<v*q:=by
  rw [Nat.mul_comm v,hv,zND]
  rcases hc with hc | hc
  ·have h1:4294967296*v≤q*v:=Nat.mul_le_mul_right _ hc
   have h2:q*v=q*yn1*4294967296+q*yn0:=by rw [hv,zND]
   omega
  ·generalize q*yn1=p1 at *
   generalize q*yn0=p0 at *
   omega
 have:=Nat.div_lt_of_lt_mul h
 omega
theorem zRx {u v yn1 yn0 un1 q r:Nat} (hv:v=yn1*4294967296+yn0) (h0:0<v) (hq:q*yn1+r=u) (hg:(u*4294967296+un1)/v≤q) (hc:q*yn0≤4294967296*r+un1):q=(u*4294967296+un1)/v:=by
 refine Nat.le_antisymm ?_ hg
 rw [Nat.le_div_iff_mul_le h0,hv,zND]
 generalize q*yn1=p1 at *
 generalize q*yn0=p0 at *
 omega
theorem zR9 {u v yn1 yn0 un1 q r:Nat} (hv:v=yn1*4294967296+yn0) (h1:2147483648≤yn1) (hy0:yn0<4294967296) (hu:u<v) (hq:q*yn1+r=u) (hg:(u*4294967296+un1)/v≤q) (hr:4294967296≤r):q=(u*4294967296+un1)/v:=by
 refine zRx hv (by omega) hq hg ?_
 have h2:q<4294967296:=by
  apply Nat.lt_of_mul_lt_mul_right (a:=yn1)
  generalize q*yn1=p1 at *
  omega
 have h3:q*yn0≤4294967295*yn0:=Nat.mul_le_mul_right _ (by omega)
 omega
theorem zWo {u v un1:Nat} (hu:u<v) (hun:un1<4294967296):(u*4294967296+un1)/v<4294967296:=by
 apply Nat.div_lt_of_lt_mul
 have:v*4294967296=4294967296*v:=Nat.mul_comm _ _
 omega
theorem zYD {u v un1 un0 : Nat} (h0 : 0 < v) : (u * 18446744073709551616 + un1 * 4294967296 + un0) / v = (u * 4294967296 + un1) / v * 4294967296 + (((u * 4294967296 + un1) % v) * 4294967296 + un0) / v ∧
   (u*18446744073709551616+un1*4294967296+un0)%v=(((u*4294967296+un1)%v)*4294967296+un0)%v:=by
 have e:u*18446744073709551616+un1*4294967296+un0=v*((u*4294967296+un1)/v*4294967296)+(((u*4294967296+un1)%v)*4294967296+un0):=by
   have h:=Nat.div_add_mod (u*4294967296+un1) v
   rw [← Nat.mul_assoc]
   generalize v*((u*4294967296+un1)/v)=p at *
   omega
 constructor
 · rw [e,Nat.mul_add_div h0]
 · rw [e,Nat.mul_add_mod]
theorem zRJ {n y k:Nat} (hk:0<k):n*k/(y*k)=n/y∧n*k%(y*k)/k=n%y:=by
 constructor
 · exact Nat.mul_div_mul_right _ _ hk
 · rw [Nat.mul_mod_mul_right,Nat.mul_div_cancel _ hk]
def zDr (x:Int):Int:=max (-9223372036854775808) (min 9223372036854775807 x)
theorem zHv (x:Int) : -9223372036854775808≤zDr x∧zDr x≤9223372036854775807:=by unfold zDr;omega
def stp (b:Bool):Int:=bif b then -9223372036854775808 else 9223372036854775807
def zC0 (a b:Int):Int:=zDr (a+b)
def zBV (a b:Int):Int:=zDr (a-b)
def zA1 (a b:Int):Int:=zDr (a*b/65536)
def zAI (x a b:Int):Int:=min (max x (min a b)) (max a b)
def zBP (num den:Int):Nat:=if den<1∨4611686018427387904<den∨num<0∨den<num then 3 else 0
def zCY (a b num den:Int):Int:=a+(b-a)*num/den
def zBr (num den:Int):Int:=65536*num/den
theorem zKI (a b:Int) : -9223372036854775808≤zC0 a b∧zC0 a b≤9223372036854775807:=zHv _
theorem zB8 (a b:Int) : -9223372036854775808≤zBV a b∧zBV a b≤9223372036854775807:=zHv _
theorem zCm (a b:Int) : -9223372036854775808≤zA1 a b∧zA1 a b≤9223372036854775807:=zHv _
theorem zNX {p q:Prop} [Decidable p] [Decidable q] (h:(decide p==decide q)=true):p↔q:=by simpa using h
theorem zNq {p q:Prop} [Decidable p] [Decidable q] (h:(decide p==decide q)=false):¬(p↔q):=λe=>by rw [show decide p=decide q from decide_eq_decide.2 e] at h;simp at h
def zAu (a:Int):BitVec 64:=if a<0 then -BitVec.ofInt 64 a else BitVec.ofInt 64 a
theorem zLJ {a:Int} (h1 : -9223372036854775808≤a) (h2:a≤9223372036854775807):(zAu a).toNat=a.natAbs:=by
 unfold zAu
 split
 ·rw [BitVec.toNat_neg,BitVec.toNat_ofInt]
  omega
 ·rw [BitVec.toNat_ofInt]
  omega
def mHi (X Y:BitVec 64):BitVec 64:=BitVec.ofNat 64 (X.toNat*Y.toNat/18446744073709551616)
theorem zEP (X Y:BitVec 64):(mHi X Y).toNat=X.toNat*Y.toNat/18446744073709551616:=by
 unfold mHi
 rw [BitVec.toNat_ofNat]
 have h:X.toNat*Y.toNat/18446744073709551616<18446744073709551616:=by
  apply Nat.div_lt_of_lt_mul
  exact Nat.mul_lt_mul'' X.isLt Y.isLt
 exact Nat.mod_eq_of_lt h
theorem zKB (X Y:BitVec 64):(X*Y).toNat=X.toNat*Y.toNat%18446744073709551616:=BitVec.toNat_mul X Y
theorem zOp (X:BitVec 64):(X&&&4294967295#64).toNat=X.toNat%4294967296:=by
 rw [BitVec.toNat_and]
 exact Nat.and_two_pow_sub_one_eq_mod X.toNat 32
theorem zO2 (X:BitVec 64):(X>>>32).toNat=X.toNat/4294967296:=by
 rw [BitVec.toNat_ushiftRight,Nat.shiftRight_eq_div_pow]
theorem zbW (X Y : BitVec 64) : (X >>> 32) * (Y >>> 32) + (((X >>> 32) * (Y &&& 4294967295#64) + ((X &&& 4294967295#64) * (Y &&& 4294967295#64)) >>> 32) >>> 32) +
   ((((X>>>32)*(Y&&&4294967295#64)+((X&&&4294967295#64)*(Y&&&4294967295#64))>>>32)&&&4294967295#64)+(X&&&4294967295#64)*(Y>>>32))>>>32=mHi X Y:=by
 apply BitVec.eq_of_toNat_eq
 obtain ⟨bd,bt,bw,hhi⟩:=Lib.mul64_hi X.toNat Y.toNat X.isLt Y.isLt
 have ba:=Lib.half_mul_le (a:=X.toNat/4294967296) (b:=Y.toNat/4294967296) (by have:=X.isLt;omega) (by have:=Y.isLt;omega)
 have bb:=Lib.half_mul_le (a:=X.toNat/4294967296) (b:=Y.toNat%4294967296) (by have:=X.isLt;omega) (by omega)
 have bc:=Lib.half_mul_le (a:=X.toNat%4294967296) (b:=Y.toNat/4294967296) (by omega) (by have:=Y.isLt;omega)
 rw [zEP,← hhi]
 simp only [BitVec.toNat_add,BitVec.toNat_mul,zOp,zO2]
 generalize X.toNat/4294967296*(Y.toNat/4294967296)=a at *
 generalize X.toNat/4294967296*(Y.toNat%4294967296)=b at *
 generalize X.toNat%4294967296*(Y.toNat/4294967296)=c at *
 generalize X.toNat%4294967296*(Y.toNat%4294967296)=d at *
 omega
def flo (n:Nat) (more minus:Bool):Int:=bif minus then zDr (-((n+(bif more then 1 else 0):Nat):Int)) else zDr (n:Int)
theorem zUm {n:Nat} {more minus:Bool} (h:minus=false) (h2:9223372036854775807<(n:Int)):stp false=flo n more minus:=by
 subst h;unfold flo stp zDr;simp only [cond_false];omega
theorem zUp {X:BitVec 64} {more minus:Bool} (h:minus=false) (h2:¬ 9223372036854775807<((X.toNat:Nat):Int)):X.toInt=flo X.toNat more minus:=by
 subst h;unfold flo zDr;simp only [cond_false]
 rw [BitVec.toInt_eq_toNat_cond]
 split<;>omega
theorem zZb {X:BitVec 64} (h:X.toNat≤9223372036854775808):(-X).toInt = -((X.toNat:Nat):Int):=by
 rw [BitVec.toInt_eq_toNat_cond,BitVec.toNat_neg]
 split<;>omega
theorem zU9 {X:BitVec 64} (h:X.toNat≠18446744073709551615):(X+1#64).toNat=X.toNat+1:=by
 rw [BitVec.toNat_add]
 have:=X.isLt
 have e:(1#64).toNat=1:=rfl
 omega
theorem zP7 {X X' : BitVec 64} {more minus : Bool} (h : ¬ minus = false) (hX : X'.toNat = X.toNat + (bif more then 1 else 0) ∨ X'.toNat = X.toNat ∧ X.toNat = 18446744073709551615) :
   (9223372036854775808<((X'.toNat:Nat):Int)→stp true=flo X.toNat more minus)∧(¬ 9223372036854775808<((X'.toNat:Nat):Int)→(-X').toInt=flo X.toNat more minus):=by
 have e:minus=true:=by simpa using h
 subst e
 constructor
 · intro h2
   unfold flo stp zDr
   simp only [cond_true]
   cases more<;>simp only [cond_true,cond_false] at hX ⊢ <;> omega
 · intro h2
   rw [zZb (by omega)]
   unfold flo zDr
   simp only [cond_true]
   cases more<;>simp only [cond_true,cond_false] at hX ⊢ <;> omega
theorem zbZ {X : BitVec 64} {more minus : Bool} (h : minus = true) (h1 : more = true) (h2 : ((X.toNat : Nat) : Int) ≠ 18446744073709551615) :
   (9223372036854775808<(((X+1#64).toNat:Nat):Int)→stp true=flo X.toNat more minus)∧(¬ 9223372036854775808<(((X+1#64).toNat:Nat):Int)→(-(X+1#64)).toInt=flo X.toNat more minus) :=
 zP7 (by rw [h];simp) (.inl (by rw [zU9 (by omega),h1];rfl))
theorem zVV {X : BitVec 64} {more minus : Bool} (h : minus = true) (h1 : more = false ∨ ((X.toNat : Nat) : Int) = 18446744073709551615) :
   (9223372036854775808<((X.toNat:Nat):Int)→stp true=flo X.toNat more minus)∧(¬ 9223372036854775808<((X.toNat:Nat):Int)→(-X).toInt=flo X.toNat more minus) :=
 zP7 (by rw [h];simp) (by rcases h1 with h1 | h1;left;rw [h1];rfl;right;omega)
theorem zRW (x y:Int):x*y=bif !(decide (x<0)==decide (y<0)) then -((x.natAbs*y.natAbs:Nat):Int) else ((x.natAbs*y.natAbs:Nat):Int):=by
 have hc:((x.natAbs*y.natAbs:Nat):Int)=(x.natAbs:Int)*(y.natAbs:Int):=Int.natCast_mul _ _
 rw [hc]
 by_cases hx:x<0<;>by_cases hy:y<0
 ·have ex:(x.natAbs:Int) = -x:=by omega
  have ey:(y.natAbs:Int) = -y:=by omega
  rw [ex,ey];simp [hx,hy,Int.neg_mul,Int.mul_neg]
 ·have ex:(x.natAbs:Int) = -x:=by omega
  have ey:(y.natAbs:Int)=y:=by omega
  rw [ex,ey];simp [hx,hy,Int.neg_mul,Int.mul_neg]
 ·have ex:(x.natAbs:Int)=x:=by omega
  have ey:(y.natAbs:Int) = -y:=by omega
  rw [ex,ey];simp [hx,hy,Int.neg_mul,Int.mul_neg]
 ·have ex:(x.natAbs:Int)=x:=by omega
  have ey:(y.natAbs:Int)=y:=by omega
  rw [ex,ey];simp [hx,hy,Int.neg_mul,Int.mul_neg]
theorem zbf (P:Nat):P/65536+(bif decide (P%65536≠0) then 1 else 0)=(P+65535)/65536:=by
 by_cases h:P%65536=0
 · rw [show decide (P%65536≠0)=false from decide_eq_false (λe=>e h),cond_false];omega
 · rw [show decide (P%65536≠0)=true from decide_eq_true h,cond_true];omega
theorem zZZ (P:Nat) (mi:Bool):flo (P/65536) (decide (P%65536≠0)) mi=zDr ((bif mi then -(P:Int) else (P:Int))/65536):=by
 unfold flo
 rw [zbf]
 cases mi
 · simp only [cond_false];congr 1
 · simp only [cond_true];congr 1;omega
theorem zNm {x y:Int} (hx : -9223372036854775808≤x∧x≤9223372036854775807) (hy : -9223372036854775808≤y∧y≤9223372036854775807):(zAu x).toNat*(zAu y).toNat=x.natAbs*y.natAbs:=by
 rw [zLJ hx.1 hx.2,zLJ hy.1 hy.2]
theorem zXz {x y:Int} (hx : -9223372036854775808≤x∧x≤9223372036854775807) (hy : -9223372036854775808≤y∧y≤9223372036854775807) (h:(((mHi (zAu x) (zAu y)>>>16).toNat:Nat):Int)≠0):stp (!(decide (x<0)==decide (y<0)))=zA1 x y:=by
 unfold zA1
 rw [zRW x y]
 rw [BitVec.toNat_ushiftRight,zEP,zNm hx hy,Nat.shiftRight_eq_div_pow] at h
 generalize x.natAbs*y.natAbs=P at *
 have h2:P/18446744073709551616/65536≠0:=λe=>h (by rw [show (2:Nat) ^ 16=65536 from rfl,e];rfl)
 generalize (!(decide (x<0)==decide (y<0)))=mi
 unfold stp zDr
 cases mi<;>simp only [cond_true,cond_false]<;>omega
theorem zZg {A B:BitVec 64} (hA:A.toNat<65536):((A<<<48)|||(B>>>16)).toNat=A.toNat*281474976710656+B.toNat/65536:=by
 have hb:B.toNat/65536<2 ^ 48:=by have:=B.isLt;omega
 rw [BitVec.toNat_or,BitVec.toNat_shiftLeft,BitVec.toNat_ushiftRight,Nat.shiftRight_eq_div_pow]
 rw [show A.toNat<<<48%2 ^ 64=A.toNat<<<48 by rw [Nat.shiftLeft_eq];omega]
 rw [← Nat.shiftLeft_add_eq_or_of_lt hb,Nat.shiftLeft_eq]
theorem zSn {x y : Int} (hx : -9223372036854775808 ≤ x ∧ x ≤ 9223372036854775807) (hy : -9223372036854775808 ≤ y ∧ y ≤ 9223372036854775807) (h : ¬ (((mHi (zAu x) (zAu y) >>> 16).toNat : Nat) : Int) ≠ 0) :
   flo (((mHi (zAu x) (zAu y))<<<48)|||((zAu x*zAu y)>>>16)).toNat (!((((zAu x*zAu y)<<<48).toNat:Nat):Int)==0) (!(decide (x<0)==decide (y<0)))=zA1 x y:=by
 unfold zA1
 rw [zRW x y,← zZZ]
 have hP:=zNm hx hy
 rw [BitVec.toNat_ushiftRight,zEP,hP,Nat.shiftRight_eq_div_pow] at h
 have h2:x.natAbs*y.natAbs/18446744073709551616<65536:=by
   have:((x.natAbs*y.natAbs/18446744073709551616/65536:Nat):Int)=0:=by simpa using h
   omega
 have e1:(((mHi (zAu x) (zAu y))<<<48)|||((zAu x*zAu y)>>>16)).toNat=x.natAbs*y.natAbs/65536:=by
   rw [zZg (by rw [zEP,hP];exact h2),zEP,zKB,hP]
   omega
 have e2:(!((((zAu x*zAu y)<<<48).toNat:Nat):Int)==0)=decide (x.natAbs*y.natAbs%65536≠0):=by
   rw [BitVec.toNat_shiftLeft,zKB,hP,Nat.shiftLeft_eq]
   generalize x.natAbs*y.natAbs=P
   rw [Bool.eq_iff_iff,Bool.not_eq_true',beq_eq_false_iff_ne,decide_eq_true_eq]
   omega
 rw [e1,e2]
def dQ (H L Y:BitVec 64):BitVec 64:=BitVec.ofNat 64 ((H.toNat*18446744073709551616+L.toNat)/Y.toNat)
def dR (H L Y:BitVec 64):BitVec 64:=BitVec.ofNat 64 ((H.toNat*18446744073709551616+L.toNat)%Y.toNat)
theorem zQL {H L Y:BitVec 64} (h:H.toNat<Y.toNat):(dQ H L Y).toNat=(H.toNat*18446744073709551616+L.toNat)/Y.toNat:=by
 unfold dQ
 rw [BitVec.toNat_ofNat]
 refine Nat.mod_eq_of_lt (Nat.div_lt_of_lt_mul ?_)
 have hl:=L.isLt
 have h2:(H.toNat+1)*18446744073709551616≤Y.toNat*18446744073709551616:=Nat.mul_le_mul_right _ h
 rw [show (2:Nat) ^ 64=18446744073709551616 from rfl] at hl ⊢
 omega
theorem zQp {H L Y:BitVec 64} (h:H.toNat<Y.toNat):(dR H L Y).toNat=(H.toNat*18446744073709551616+L.toNat)%Y.toNat:=by
 unfold dR
 rw [BitVec.toNat_ofNat]
 refine Nat.mod_eq_of_lt ?_
 have h1:=Nat.mod_lt (H.toNat*18446744073709551616+L.toNat) (Nat.lt_of_le_of_lt (Nat.zero_le _) h)
 have h2:=Y.isLt
 omega
structure Dig (V y1 y0 U B:BitVec 64):Prop where
 hv:V.toNat=y1.toNat*4294967296+y0.toNat
 h1:2147483648≤y1.toNat
 l1:y1.toNat<4294967296
 l0:y0.toNat<4294967296
 hu:U.toNat<V.toNat
 hb:B.toNat<4294967296
theorem Dig.first {V y1 y0 U B:BitVec 64} (h:Dig V y1 y0 U B):(U/y1).toNat*y1.toNat+(U-U/y1*y1).toNat=U.toNat∧(U.toNat*4294967296+B.toNat)/V.toNat≤(U/y1).toNat∧(U-U/y1*y1).toNat<4294967296:=by
 have e:(U/y1).toNat=U.toNat/y1.toNat:=BitVec.toNat_udiv
 have h2:=Nat.div_add_mod U.toNat y1.toNat
 have h3:=Nat.mod_lt U.toNat (show y1.toNat > 0 by have:=h.h1;omega)
 have hl:=h.l1
 have hU:=U.isLt
 rw [Nat.mul_comm] at h2
 have e2:(U/y1*y1).toNat=U.toNat/y1.toNat*y1.toNat:=by
  rw [BitVec.toNat_mul,e]
  exact Nat.mod_eq_of_lt (by omega)
 have e3:(U-U/y1*y1).toNat=U.toNat%y1.toNat:=by
  rw [BitVec.toNat_sub,e2]
  generalize U.toNat/y1.toNat*y1.toNat=p at *
  omega
 refine ⟨by rw [e,e3];exact h2,by rw [e];exact zRc h.hv h.h1 h.hb,by rw [e3];omega⟩
theorem Dig.small {V y1 y0 U B q r:BitVec 64} (h:Dig V y1 y0 U B) (h0:q.toNat*y1.toNat+r.toNat=U.toNat) (h2:r.toNat<4294967296):(4294967296#64*r+B).toNat=4294967296*r.toNat+B.toNat∧(q.toNat<4294967296→(q*y0).toNat=q.toNat*y0.toNat)∧(r+y1).toNat=r.toNat+y1.toNat:=by
 have hb:=h.hb
 have hl:=h.l1
 refine ⟨?_,λhq=>?_,?_⟩
 ·rw [BitVec.toNat_add,BitVec.toNat_mul]
  rw [show (4294967296#64).toNat=4294967296 from rfl]
  omega
 ·rw [BitVec.toNat_mul]
  refine Nat.mod_eq_of_lt ?_
  exact Nat.lt_of_le_of_lt (Nat.mul_le_mul (Nat.le_of_lt_succ hq) (Nat.le_of_lt_succ h.l0)) (by decide)
 ·rw [BitVec.toNat_add];omega
theorem Dig.more {V y1 y0 U B q r : BitVec 64} (h : Dig V y1 y0 U B) (h0 : q.toNat * y1.toNat + r.toNat = U.toNat) (hg : (U.toNat * 4294967296 + B.toNat) / V.toNat ≤ q.toNat) (h2 : r.toNat < 4294967296)
   (hc:4294967296≤q.toNat∨q.toNat<4294967296∧(4294967296#64*r+B).toNat<(q*y0).toNat) :
   (q-1#64).toNat*y1.toNat+(r+y1).toNat=U.toNat∧(U.toNat*4294967296+B.toNat)/V.toNat≤(q-1#64).toNat∧(q-1#64).toNat<q.toNat∧(r+y1).toNat=r.toNat+y1.toNat:=by
 obtain ⟨e1,e2,e3⟩:=h.small h0 h2
 have hc2:4294967296≤q.toNat∨4294967296*r.toNat+B.toNat<q.toNat*y0.toNat:=by
   rcases hc with hc | ⟨hc,hc2⟩
   · exact .inl hc
   · rw [e1,e2 hc] at hc2;exact .inr hc2
 have hp:0<q.toNat:=by
   rcases Nat.eq_zero_or_pos q.toNat with h5 | h5
   · rw [h5,Nat.zero_mul] at hc2;omega
   · exact h5
 have e4:(q-1#64).toNat=q.toNat-1:=by
   rw [BitVec.toNat_sub,show (1#64).toNat=1 from rfl]
   have:=q.isLt
   omega
 refine ⟨?_,by rw [e4];exact zTy h.hv h.hu h.hb h0 hc2,by omega,e3⟩
 rw [e4,e3,Nat.sub_mul,Nat.one_mul]
 have:1*y1.toNat≤q.toNat*y1.toNat:=Nat.mul_le_mul_right _ hp
 generalize q.toNat*y1.toNat=p at *
 omega
theorem Dig.done {V y1 y0 U B q r : BitVec 64} (h : Dig V y1 y0 U B) (h0 : q.toNat * y1.toNat + r.toNat = U.toNat) (hg : (U.toNat * 4294967296 + B.toNat) / V.toNat ≤ q.toNat) (h2 : r.toNat < 4294967296)
   (hc:q.toNat<4294967296) (hc2:(q*y0).toNat≤(4294967296#64*r+B).toNat):q.toNat=(U.toNat*4294967296+B.toNat)/V.toNat:=by
 obtain ⟨e1,e2,e3⟩:=h.small h0 h2
 rw [e1,e2 hc] at hc2
 exact zRx h.hv (by have:=h.hu;omega) h0 hg hc2
theorem Dig.brk {V y1 y0 U B q r:BitVec 64} (h:Dig V y1 y0 U B) (h0:q.toNat*y1.toNat+r.toNat=U.toNat) (hg:(U.toNat*4294967296+B.toNat)/V.toNat≤q.toNat) (h2:4294967296≤r.toNat):q.toNat=(U.toNat*4294967296+B.toNat)/V.toNat :=
 zR9 h.hv h.h1 h.l0 h.hu h0 hg h2
theorem Dig.rest {V y1 y0 U B q:BitVec 64} (h:Dig V y1 y0 U B) (hq:q.toNat=(U.toNat*4294967296+B.toNat)/V.toNat):(U*4294967296#64+B-q*V).toNat=(U.toNat*4294967296+B.toNat)%V.toNat:=by
 have h2:=Nat.div_add_mod (U.toNat*4294967296+B.toNat) V.toNat
 have h3:=Nat.mod_lt (U.toNat*4294967296+B.toNat) (show V.toNat > 0 by have:=h.hu;omega)
 have hV:=V.isLt
 rw [← hq,Nat.mul_comm] at h2
 rw [BitVec.toNat_sub,BitVec.toNat_add,BitVec.toNat_mul,BitVec.toNat_mul]
 rw [show (4294967296#64).toNat=4294967296 from rfl]
 generalize q.toNat*V.toNat=p at *
 omega
theorem Dig.next {V y1 y0 U B q R B':BitVec 64} (h:Dig V y1 y0 U B) (hq:q.toNat=(U.toNat*4294967296+B.toNat)/V.toNat) (hR:R=U*4294967296#64+B-q*V) (hb:B'.toNat<4294967296):Dig V y1 y0 R B' :=
 ⟨h.hv,h.h1,h.l1,h.l0,by rw [hR,h.rest hq];exact Nat.mod_lt _ (by have:=h.hu;omega),hb⟩
theorem zcN {Y K:BitVec 64} (hK:K=BitVec.ofInt 64 (64-((zAv Y.toNat:Nat):Int))):K.toNat+zAv Y.toNat=64:=by
 have:=zDH (k:=64) Y.isLt
 rw [hK,BitVec.toNat_ofInt]
 omega
theorem zYY {X Z Y K V U W : BitVec 64} (h : X.toNat < Y.toNat) (hK : K.toNat + zAv Y.toNat = 64) (hV : V = Y <<< K.toNat) (hU : U = X <<< K.toNat ||| Z >>> (64#64 - K).toNat) (hW : W = Z <<< K.toNat) :
   V.toNat=Y.toNat*2 ^ K.toNat∧U.toNat*18446744073709551616+W.toNat=(X.toNat*18446744073709551616+Z.toNat)*2 ^ K.toNat∧Dig V (V>>>32) (V&&&4294967295#64) U (W>>>32):=by
 have hb1:0<zAv Y.toNat:=zGM (k:=0) (by omega)
 generalize hk:K.toNat=k at *
 have e0:(64#64-K).toNat=64-k:=by
   rw [BitVec.toNat_sub,show (64#64).toNat=64 from rfl,hk];omega
 have hY:=Y.isLt
 have hZ:=Z.isLt
 have hp:2 ^ k*2 ^ (64-k)=18446744073709551616:=by rw [← Nat.pow_add,show k+(64-k)=64 by omega]
 have hpk:0<2 ^ k:=Nat.two_pow_pos k
 have hb2:Y.toNat<2 ^ (64-k):=by
   rcases Nat.lt_or_ge Y.toNat (2 ^ (64-k)) with h5 | h5
   · exact h5
   · have:=zGM h5;omega
 have hb3:2 ^ (63-k)≤Y.toNat:=by
   rcases Nat.lt_or_ge Y.toNat (2 ^ (63-k)) with h5 | h5
   · have:=zDH h5;omega
   · exact h5
 have hp3:2 ^ (63-k)*2 ^ k=9223372036854775808:=by rw [← Nat.pow_add,show (63-k)+k=63 by omega]
 have hv1:Y.toNat*2 ^ k<18446744073709551616:=by
   rw [← hp,Nat.mul_comm (2 ^ k)];exact Nat.mul_lt_mul_of_pos_right hb2 hpk
 have hv2:9223372036854775808≤Y.toNat*2 ^ k:=by rw [← hp3];exact Nat.mul_le_mul_right _ hb3
 have hx1:X.toNat*2 ^ k+2 ^ k≤Y.toNat*2 ^ k:=by
   rw [← Nat.succ_mul];exact Nat.mul_le_mul_right _ h
 have eV:V.toNat=Y.toNat*2 ^ k:=by
   rw [hV,BitVec.toNat_shiftLeft,Nat.shiftLeft_eq];exact Nat.mod_eq_of_lt hv1
 have hz:Z.toNat/2 ^ (64-k)<2 ^ k:=by
   apply Nat.div_lt_of_lt_mul
   rw [Nat.mul_comm,hp];exact hZ
 have eU:U.toNat=X.toNat*2 ^ k+Z.toNat/2 ^ (64-k):=by
   rw [hU,e0,BitVec.toNat_or,BitVec.toNat_shiftLeft,BitVec.toNat_ushiftRight,Nat.shiftRight_eq_div_pow]
   rw [show X.toNat<<<k%2 ^ 64=X.toNat<<<k by rw [Nat.shiftLeft_eq];exact Nat.mod_eq_of_lt (by omega)]
   rw [← Nat.shiftLeft_add_eq_or_of_lt hz,Nat.shiftLeft_eq]
 have eW:W.toNat=Z.toNat%2 ^ (64-k)*2 ^ k:=by
   rw [hW,BitVec.toNat_shiftLeft,Nat.shiftLeft_eq,show (2:Nat) ^ 64=2 ^ (64-k)*2 ^ k by rw [Nat.mul_comm];exact hp.symm,Nat.mul_mod_mul_right]
 refine ⟨eV,?_,⟨?_,?_,?_,?_,?_,?_⟩⟩
 · have h9:=Nat.div_add_mod Z.toNat (2 ^ (64-k))
   rw [eU,eW,Nat.add_mul (X.toNat*18446744073709551616)]
   conv=>rhs;rw [← h9]
   rw [Nat.add_mul,Nat.add_mul,Nat.mul_right_comm X.toNat,Nat.add_assoc]
   congr 2
   rw [← hp,Nat.mul_comm (2 ^ (64-k)),Nat.mul_right_comm,Nat.mul_assoc]
 · rw [zO2,zOp];omega
 · rw [zO2,eV];omega
 · rw [zO2];have:=V.isLt;omega
 · rw [zOp];omega
 · rw [eU,eV];omega
 · rw [zO2];have:=W.isLt;omega
theorem zYr {X Z Y K V U W y1 y0 q1 R q0 : BitVec 64} (h : X.toNat < Y.toNat) (eV : V.toNat = Y.toNat * 2 ^ K.toNat) (eU : U.toNat * 18446744073709551616 + W.toNat = (X.toNat * 18446744073709551616 + Z.toNat) * 2 ^ K.toNat)
   (hd:Dig V y1 y0 U (W>>>32)) (hq1:q1.toNat=(U.toNat*4294967296+(W>>>32).toNat)/V.toNat) (hR:R=U*4294967296#64+W>>>32-q1*V) (hq0:q0.toNat=(R.toNat*4294967296+(W&&&4294967295#64).toNat)/V.toNat) :
   q1*4294967296#64+q0=dQ X Z Y∧(R*4294967296#64+(W&&&4294967295#64)-q0*V)>>>K.toNat=dR X Z Y:=by
 have hd2:Dig V y1 y0 R (W&&&4294967295#64):=hd.next hq1 hR (by rw [zOp];omega)
 have eR:R.toNat=(U.toNat*4294967296+(W>>>32).toNat)%V.toNat:=by rw [hR];exact hd.rest hq1
 have h0:0<V.toNat:=by have:=hd.hu;omega
 have ht:=zYD (u:=U.toNat) (un1:=(W>>>32).toNat) (un0:=(W&&&4294967295#64).toNat) h0
 have ew:U.toNat*18446744073709551616+(W>>>32).toNat*4294967296+(W&&&4294967295#64).toNat=(X.toNat*18446744073709551616+Z.toNat)*2 ^ K.toNat:=by
   rw [← eU,zO2,zOp]
   have:W.toNat/4294967296*4294967296+W.toNat%4294967296=W.toNat:=Nat.div_add_mod' _ _
   rw [Nat.add_assoc,this]
 have hs:=zRJ (n:=X.toNat*18446744073709551616+Z.toNat) (y:=Y.toNat) (k:=2 ^ K.toNat) (Nat.two_pow_pos _)
 rw [← eR,← hq1,← hq0,ew,eV,hs.1] at ht
 constructor
 · apply BitVec.eq_of_toNat_eq
   have hl1:q1.toNat<4294967296:=by rw [hq1];exact zWo hd.hu hd.hb
   have hl0:q0.toNat<4294967296:=by rw [hq0];exact zWo hd2.hu hd2.hb
   rw [zQL h,ht.1,BitVec.toNat_add,BitVec.toNat_mul,show (4294967296#64).toNat=4294967296 from rfl]
   omega
 · apply BitVec.eq_of_toNat_eq
   rw [BitVec.toNat_ushiftRight,Nat.shiftRight_eq_div_pow,hd2.rest hq0,zQp h,← hs.2,ht.2,eV]
theorem zU7 {X Z Y:BitVec 64} (hx:X.toNat=0) (h:X.toNat<Y.toNat):(Z/Y,Z%Y)=(dQ X Z Y,dR X Z Y):=by
 congr 1
 ·apply BitVec.eq_of_toNat_eq
  rw [zQL h,hx,Nat.zero_mul,Nat.zero_add];exact BitVec.toNat_udiv
 ·apply BitVec.eq_of_toNat_eq
  rw [zQp h,hx,Nat.zero_mul,Nat.zero_add];exact BitVec.toNat_umod
theorem zUv {Y:BitVec 64} (h:0<Y.toNat):Y≠0:=λe=>by rw [e] at h;exact absurd h (by decide)
def pQ (X:BitVec 64) (num den:Int):BitVec 64:=BitVec.ofNat 64 (X.toNat*num.toNat/den.toNat)
def pM (X:BitVec 64) (num den:Int):Bool:=decide (X.toNat*num.toNat%den.toNat≠0)
theorem zRe {num den:Int} (h1:¬ den<1) (h2:¬ 4611686018427387904<den) (h3:num=min (max num 0) den):zBP num den=0:=by unfold zBP;rw [if_neg];omega
theorem zJi {num den:Int} (h:den<1∨4611686018427387904<den∨num≠min (max num 0) den):zBP num den=3:=by unfold zBP;rw [if_pos];rcases h with h | h | h<;>omega
theorem zE3 {num den:Int} (h:zBP num den=0):1≤den∧den≤4611686018427387904∧0≤num∧num≤den:=by
 unfold zBP at h
 split at h
 · cases h
 · omega
theorem zCv {x:Int} (h1:0≤x) (h2:x≤9223372036854775807):(BitVec.ofInt 64 x).toNat=x.toNat:=by rw [BitVec.toNat_ofInt];omega
theorem zQr {X:BitVec 64} {num den:Int} (h1:1≤den) (h2:den≤4611686018427387904) (h3:0≤num) (h4:num≤den):(mHi X (BitVec.ofInt 64 num)).toNat<(BitVec.ofInt 64 den).toNat:=by
 rw [zEP,zCv h3 (by omega),zCv (by omega) (by omega)]
 apply Nat.div_lt_of_lt_mul
 have hX:=X.isLt
 have h5:X.toNat*num.toNat≤X.toNat*den.toNat:=Nat.mul_le_mul_left _ (by omega)
 have h6:X.toNat*den.toNat<18446744073709551616*den.toNat:=Nat.mul_lt_mul_of_pos_right hX (by omega)
 omega
theorem zZf {X : BitVec 64} {num den : Int} (h1 : 1 ≤ den) (h2 : den ≤ 4611686018427387904) (h3 : 0 ≤ num) (h4 : num ≤ den) :
   dQ (mHi X (BitVec.ofInt 64 num)) (X*BitVec.ofInt 64 num) (BitVec.ofInt 64 den)=pQ X num den∧(!((((dR (mHi X (BitVec.ofInt 64 num)) (X*BitVec.ofInt 64 num) (BitVec.ofInt 64 den)).toNat:Nat):Int)==0))=pM X num den:=by
 have e:(mHi X (BitVec.ofInt 64 num)).toNat*18446744073709551616+(X*BitVec.ofInt 64 num).toNat=X.toNat*num.toNat:=by
   rw [zEP,zKB,zCv h3 (by omega)]
   exact Nat.div_add_mod' _ _
 constructor
 · unfold dQ pQ
   rw [e,zCv (by omega) (by omega)]
 · rw [zQp (zQr h1 h2 h3 h4),e,zCv (by omega) (by omega)]
   unfold pM
   rw [Bool.eq_iff_iff,Bool.not_eq_true',beq_eq_false_iff_ne,decide_eq_true_eq]
   omega
theorem zR7 {X:BitVec 64} {num den:Int} (h1:1≤den) (h3:0≤num) (h4:num≤den):(pQ X num den).toNat=X.toNat*num.toNat/den.toNat∧X.toNat*num.toNat/den.toNat≤X.toNat:=by
 have h5:X.toNat*num.toNat/den.toNat≤X.toNat:=by
  apply Nat.div_le_of_le_mul
  rw [Nat.mul_comm]
  exact Nat.mul_le_mul_right _ (by omega)
 refine ⟨?_,h5⟩
 unfold pQ
 rw [BitVec.toNat_ofNat]
 exact Nat.mod_eq_of_lt (Nat.lt_of_le_of_lt h5 X.isLt)
theorem zUJ {x y:Int} {X:BitVec 64} (h1 : -9223372036854775808≤x+X.toNat∧x+X.toNat≤9223372036854775807):IntKind.i64.wrap (x+X.toInt)=x+X.toNat:=by
 rw [IntKind.wrap_i64,BitVec.toInt_eq_toNat_cond]
 have:=X.isLt
 split<;>omega
theorem zNL {x:Int} {X:BitVec 64} (h1 : -9223372036854775808≤x-X.toNat∧x-X.toNat≤9223372036854775807):IntKind.i64.wrap (x-X.toInt)=x-X.toNat:=by
 rw [IntKind.wrap_i64,BitVec.toInt_eq_toNat_cond]
 have:=X.isLt
 split<;>omega
theorem gap {x y:Int} (hx : -9223372036854775808≤x∧x≤9223372036854775807) (hy : -9223372036854775808≤y∧y≤9223372036854775807) (h:x≤y):(BitVec.ofInt 64 (IntKind.i64.wrap (y-x))).toNat=(y-x).toNat:=by
 rw [IntKind.wrap_i64,BitVec.toNat_ofInt]
 omega
theorem zXi {x y num den : Int} (hx : -9223372036854775808 ≤ x ∧ x ≤ 9223372036854775807) (hy : -9223372036854775808 ≤ y ∧ y ≤ 9223372036854775807) (h : x ≤ y) (hc : zBP num den = 0) :
   IntKind.i64.wrap (x+(pQ (BitVec.ofInt 64 (IntKind.i64.wrap (y-x))) num den).toInt)=zCY x y num den:=by
 obtain ⟨h1,h2,h3,h4⟩:=zE3 hc
 obtain ⟨e,hl⟩:=zR7 (X:=BitVec.ofInt 64 (IntKind.i64.wrap (y-x))) h1 h3 h4
 have hg:=gap hx hy h
 rw [hg] at e hl
 rw [zUJ (y:=y) (by rw [e];omega),e]
 unfold zCY
 have e3:(y-x)*num/den=(((y-x).toNat*num.toNat/den.toNat:Nat):Int):=by
   rw [Int.natCast_ediv,Int.natCast_mul,Int.toNat_of_nonneg h3,Int.toNat_of_nonneg (show 0≤y-x by omega),Int.toNat_of_nonneg (show 0≤den by omega)]
 rw [e3]
theorem zZp (P d:Nat) (h:0<d) : -(P:Int)/(d:Int) = -((P/d+(bif decide (P%d≠0) then 1 else 0):Nat):Int):=by
 have h2:=Nat.div_add_mod P d
 have h3:=Nat.mod_lt P h
 have e:(P:Int)=(d:Int)*((P/d:Nat):Int)+((P%d:Nat):Int):=by
  conv=>lhs;rw [← h2]
  rw [Int.natCast_add,Int.natCast_mul]
 by_cases h0:P%d=0
 ·rw [show decide (P%d≠0)=false from decide_eq_false (λe=>e h0),cond_false]
  refine ((Int.ediv_emod_unique (r:=0) (by omega)).2 ⟨?_,by omega,by omega⟩).1
  rw [h0] at e
  rw [Nat.add_zero,Int.mul_neg];omega
 ·rw [show decide (P%d≠0)=true from decide_eq_true h0,cond_true]
  refine ((Int.ediv_emod_unique (r:=(d:Int)-((P%d:Nat):Int)) (by omega)).2 ⟨?_,by omega,by omega⟩).1
  rw [Int.natCast_add,Int.mul_neg,Int.mul_add];omega
theorem zLC {x y num den : Int} (hx : -9223372036854775808 ≤ x ∧ x ≤ 9223372036854775807) (hy : -9223372036854775808 ≤ y ∧ y ≤ 9223372036854775807) (h : ¬ x ≤ y) (hc : zBP num den = 0) :
   (pM (BitVec.ofInt 64 (IntKind.i64.wrap (x-y))) num den=true→IntKind.i64.wrap (x-(pQ (BitVec.ofInt 64 (IntKind.i64.wrap (x-y))) num den+1#64).toInt)=zCY x y num den) ∧
   (pM (BitVec.ofInt 64 (IntKind.i64.wrap (x-y))) num den=false→IntKind.i64.wrap (x-(pQ (BitVec.ofInt 64 (IntKind.i64.wrap (x-y))) num den).toInt)=zCY x y num den):=by
 obtain ⟨h1,h2,h3,h4⟩:=zE3 hc
 obtain ⟨e,hl⟩:=zR7 (X:=BitVec.ofInt 64 (IntKind.i64.wrap (x-y))) h1 h3 h4
 have hg:=gap hy hx (by omega)
 have e3:(y-x)*num/den = -(((x-y).toNat*num.toNat/den.toNat+(bif decide ((x-y).toNat*num.toNat%den.toNat≠0) then 1 else 0):Nat):Int):=by
   rw [← zZp _ _ (by omega),Int.natCast_mul,Int.toNat_of_nonneg h3,Int.toNat_of_nonneg (show 0≤x-y by omega),Int.toNat_of_nonneg (show 0≤den by omega),← Int.neg_mul,Int.neg_sub]
 have h6:(x-y).toNat*num.toNat/den.toNat<(x-y).toNat∨(x-y).toNat*num.toNat%den.toNat=0:=by
   rcases Nat.lt_or_ge ((x-y).toNat*num.toNat/den.toNat) (x-y).toNat with h7 | h7
   · exact .inl h7
   · refine .inr ?_
     have h8:=Nat.div_add_mod ((x-y).toNat*num.toNat) den.toNat
     have h9:(x-y).toNat*num.toNat≤(x-y).toNat*den.toNat:=Nat.mul_le_mul_left _ (by omega)
     have h10:den.toNat*(x-y).toNat≤den.toNat*((x-y).toNat*num.toNat/den.toNat):=Nat.mul_le_mul_left _ h7
     rw [Nat.mul_comm (x-y).toNat den.toNat] at h9
     omega
 unfold pM zCY
 rw [e3,hg]
 constructor
 · intro hm
   have hm2:=of_decide_eq_true hm
   rw [hm,cond_true]
   rw [hg] at e hl
   have e4:(pQ (BitVec.ofInt 64 (IntKind.i64.wrap (x-y))) num den+1#64).toNat=(x-y).toNat*num.toNat/den.toNat+1:=by
     rw [BitVec.toNat_add,e,show (1#64).toNat=1 from rfl];omega
   rw [zNL (by rw [e4];omega),e4];omega
 · intro hm
   rw [hm,cond_false]
   rw [hg] at e hl
   rw [zNL (by rw [e];omega),e];omega
theorem zTz {num den:Int} (hc:zBP num den=0):(pQ 65536#64 num den).toInt=zBr num den:=by
 obtain ⟨h1,h2,h3,h4⟩:=zE3 hc
 obtain ⟨e,hl⟩:=zR7 (X:=65536#64) h1 h3 h4
 rw [show (65536#64).toNat=65536 from rfl] at e hl
 rw [BitVec.toInt_eq_toNat_cond,e,if_pos (by omega)]
 unfold zBr
 rw [Int.natCast_ediv,Int.natCast_mul,Int.toNat_of_nonneg h3,Int.toNat_of_nonneg (show 0≤den by omega)]
 rfl
theorem zIH {n:Nat} (h:((n:Nat):Int)≠0):(n==0)=false:=by simpa using h
theorem zCt {n:Nat} (h:((n:Nat):Int)=0):n=0:=by omega
theorem zFi {num den x y:Int} (hc:zBP num den=0) (h:x=y):Value.tuple #[.int .i64 x,.int .i64 0]=Value.tuple #[.int .i64 (bif zBP num den==0 then y else 0),.int .i64 ((zBP num den:Nat):Int)]:=by rw [hc,h];rfl
theorem zRv {n:Nat} (h:(n==0)=false) (y:Int):Value.tuple #[.int .i64 0,.int .i64 ((n:Nat):Int)]=Value.tuple #[.int .i64 (bif n==0 then y else 0),.int .i64 ((n:Nat):Int)]:=by rw [h];rfl
def bAt (p:Option Int) (x:Int):Nat:=if x < -2305843009213693952∨2305843009213693952<x then 3 else match p with | some q=>if x≤q then 10 else 0 | none=>0
def zDc : Option Int→List Int→Nat
 | _,[]=>0
 | p,x::l=>if bAt p x≠0 then bAt p x else zDc (some x) l
def tms (L:List RI):List Int:=L.map RI.tm
def zIe (L:List RI) (j:Nat):Option Int:=if j=0 then none else some (L.getD (j-1) default).tm
theorem zOL {L:List RI} {j:Nat} (h:j<L.length):tms (L.drop j)=(L.getD j default).tm::tms (L.drop (j+1)):=by
 rw [List.drop_eq_getElem_cons h,tms,List.map_cons,List.getD_eq_getElem?_getD,List.getElem?_eq_getElem h];rfl
theorem zLs {L:List RI} {j:Nat} {e:Nat} (h:j<L.length) (he:zDc (zIe L j) (tms (L.drop j))=e) (h0:bAt (zIe L j) (L.getD j default).tm=0):zDc (zIe L (j+1)) (tms (L.drop (j+1)))=e:=by
 rw [← he,zOL h,zDc,if_neg (λk=>k h0)];rfl
theorem zKM {L:List RI} {j:Nat} {e n:Nat} (h:j<L.length) (he:zDc (zIe L j) (tms (L.drop j))=e) (hn:bAt (zIe L j) (L.getD j default).tm=n) (h0:n≠0):n=e:=by
 rw [← he,zOL h,zDc,if_pos (by rw [hn];exact h0),hn]
theorem zVj {L:List RI} {j:Nat} {e:Nat} (h:L.length≤j) (he:zDc (zIe L j) (tms (L.drop j))=e):0=e:=by
 rw [← he,List.drop_eq_nil_of_le h];rfl
theorem zbo {p:Option Int} {x:Int} (h:x < -2305843009213693952∨2305843009213693952<x):bAt p x=3:=if_pos h
theorem zZ4 {L:List RI} {j:Nat} {x:Int} (h:¬ x < -2305843009213693952) (h2:¬ 2305843009213693952<x) (hj:0<j) (hx:x≤(L.getD (j-1) default).tm):bAt (zIe L j) x=10:=by
 unfold bAt zIe
 rw [if_neg (by omega),if_neg (by omega)]
 exact if_pos hx
theorem zaV {L:List RI} {j:Nat} {x:Int} (h:¬ x < -2305843009213693952) (h2:¬ 2305843009213693952<x) (hx:j=0∨¬ x≤(L.getD (j-1) default).tm):bAt (zIe L j) x=0:=by
 unfold bAt zIe
 rw [if_neg (by omega)]
 by_cases hj:j=0
 ·rw [if_pos hj]
 ·rw [if_neg hj]
  exact if_neg (by omega)
theorem zN9 {x y:Int} (h:zDc none [x,y]=0) : -2305843009213693952≤x∧x≤2305843009213693952 ∧ -2305843009213693952≤y∧y≤2305843009213693952∧x<y:=by
 unfold zDc at h
 split at h
 ·next h2=>exact absurd h h2
 ·next h2 =>
  have h3:bAt none x=0:=Decidable.not_not.1 h2
  have h4:bAt (some x) y=0:=by
   unfold zDc at h
   split at h
   ·next h5=>exact absurd h h5
   ·next h5=>exact Decidable.not_not.1 h5
  unfold bAt at h3 h4
  split at h3
  ·cases h3
  ·split at h4
   ·cases h4
   ·by_cases h5:y≤x
    ·simp only [if_pos h5] at h4;cases h4
    ·omega
def zHG (x:RI) (at_:Int):Int×Nat:=if zDc none [x.tm]≠0 then (0,zDc none [x.tm]) else if at_<x.tm then (0,3) else (zBV at_ x.tm,0)
def zAp (x y:RI) (at_:Int):Int×Int×Nat:=if zDc none [x.tm,y.tm]≠0 then (0,0,zDc none [x.tm,y.tm]) else if at_<x.tm∨y.tm<at_ then (0,0,3) else (at_-x.tm,y.tm-x.tm,0)
theorem zbN {x:RI} (h:zDj x.v x.l.length):∀ z∈[x],zDj z.v z.l.length:=by
 intro z hz;rw [List.mem_singleton] at hz;rw [hz];exact h
theorem zbg {x y:RI} (h:zDj x.v x.l.length) (h2:zDj y.v y.l.length):∀ z∈[x,y],zDj z.v z.l.length:=by
 intro z hz;rw [List.mem_cons,List.mem_singleton] at hz
 rcases hz with rfl | rfl
 · exact h
 · exact h2
theorem zas {x:RI} {at_:Int} (h:((zDc none [x.tm]:Nat):Int)≠0):zHG x at_=(0,zDc none [x.tm]):=if_pos (λe=>h (by rw [e];rfl))
theorem zbt {x:RI} {at_:Int} (h:zDc none [x.tm]=0) (h2:at_<x.tm):zHG x at_=(0,3):=by unfold zHG;rw [if_neg (λk=>k h),if_pos h2]
theorem za4 {x:RI} {at_:Int} (h:zDc none [x.tm]=0) (h2:¬ at_<x.tm):zHG x at_=(zBV at_ x.tm,0):=by unfold zHG;rw [if_neg (λk=>k h),if_neg h2]
theorem zXP {x y:RI} {at_:Int} (h:((zDc none [x.tm,y.tm]:Nat):Int)≠0):zAp x y at_=(0,0,zDc none [x.tm,y.tm]):=if_pos (λe=>h (by rw [e];rfl))
theorem zRa {x y:RI} {at_:Int} (h:zDc none [x.tm,y.tm]=0) (h2:at_<x.tm∨y.tm<at_):zAp x y at_=(0,0,3):=by unfold zAp;rw [if_neg (λk=>k h),if_pos h2]
theorem zXB {x y:RI} {at_:Int} (h:zDc none [x.tm,y.tm]=0) (h2:¬ at_<x.tm) (h3:¬ y.tm<at_):zAp x y at_=(at_-x.tm,y.tm-x.tm,0):=by unfold zAp;rw [if_neg (λk=>k h),if_neg (by omega)]
def zHM (n d:Int):Nat:=if min n d<1∨1048576<max n d then 3 else 0
theorem zWu {n d:Int} (h:min n d<1∨1048576<max n d):zHM n d=3:=if_pos h
theorem zaZ {n d:Int} (h:¬ min n d<1) (h2:¬ 1048576<max n d):zHM n d=0:=if_neg (by omega)
theorem zJy {n d:Int} (h:zHM n d=0):1≤n∧n≤1048576∧1≤d∧d≤1048576:=by
 unfold zHM at h
 split at h
 · cases h
 · omega
def zED (x n d:Int):Int:=min (max 0 x*n/d+1) 9223372036854775807
def zbY (X:BitVec 64):BitVec 64:=if X.toNat≤9223372036854775806 then X else 9223372036854775806#64
theorem zMX (X:BitVec 64):min (((X.toNat:Nat):Int)) 9223372036854775806=(((zbY X).toNat:Nat):Int):=by
 unfold zbY
 split
 · omega
 · rw [show (9223372036854775806#64).toNat=9223372036854775806 from rfl];omega
theorem zOa (X:BitVec 64):(zbY X).toInt=min ((X.toNat:Nat):Int) 9223372036854775806:=by
 rw [zMX,BitVec.toInt_eq_toNat_cond,if_pos]
 have:=zMX X
 omega
theorem zMA {x n d:Int} (hx:x≤9223372036854775807) (hc:zHM n d=0):((max 0 x).toNat*n.toNat:Nat)=(max 0 x*n).toNat∧(BitVec.ofInt 64 (max 0 x)).toNat=(max 0 x).toNat∧(BitVec.ofInt 64 n).toNat=n.toNat∧(BitVec.ofInt 64 d).toNat=d.toNat:=by
 obtain ⟨h1,h2,h3,h4⟩:=zJy hc
 refine ⟨?_,zCv (by omega) (by omega),zCv (by omega) (by omega),zCv (by omega) (by omega)⟩
 rw [Int.toNat_mul (by omega) (by omega)]
theorem zJz {x n d:Int} (hc:zHM n d=0):max 0 x*n/d=(((max 0 x).toNat*n.toNat/d.toNat:Nat):Int):=by
 obtain ⟨h1,h2,h3,h4⟩:=zJy hc
 rw [Int.natCast_ediv,Int.natCast_mul,Int.toNat_of_nonneg (show 0≤max 0 x by omega),Int.toNat_of_nonneg (show 0≤n by omega),Int.toNat_of_nonneg (show 0≤d by omega)]
theorem zUG {x n d:Int} (hx:x≤9223372036854775807) (hc:zHM n d=0) (h:(((BitVec.ofInt 64 d).toNat:Nat):Int)≤(((mHi (BitVec.ofInt 64 (max 0 x)) (BitVec.ofInt 64 n)).toNat:Nat):Int)):9223372036854775807=zED x n d:=by
 obtain ⟨e0,e1,e2,e3⟩:=zMA hx hc
 obtain ⟨h1,h2,h3,h4⟩:=zJy hc
 rw [zEP,e1,e2,e3] at h
 unfold zED
 rw [zJz hc]
 have h5:d.toNat*18446744073709551616≤(max 0 x).toNat*n.toNat:=by
  generalize (max 0 x).toNat*n.toNat=P at *
  omega
 have h6:18446744073709551616≤(max 0 x).toNat*n.toNat/d.toNat:=by
  rw [Nat.le_div_iff_mul_le (by omega),Nat.mul_comm];exact h5
 clear h h5
 generalize (max 0 x).toNat*n.toNat/d.toNat=Q at *
 clear e0 e1 e2 e3
 omega
theorem zYO {x n d : Int} (hx : x ≤ 9223372036854775807) (hc : zHM n d = 0) (h : ¬ (((BitVec.ofInt 64 d).toNat : Nat) : Int) ≤ (((mHi (BitVec.ofInt 64 (max 0 x)) (BitVec.ofInt 64 n)).toNat : Nat) : Int)) :
   (zbY (dQ (mHi (BitVec.ofInt 64 (max 0 x)) (BitVec.ofInt 64 n)) (BitVec.ofInt 64 (max 0 x)*BitVec.ofInt 64 n) (BitVec.ofInt 64 d))).toInt+1=zED x n d:=by
 obtain ⟨e0,e1,e2,e3⟩:=zMA hx hc
 have e:(mHi (BitVec.ofInt 64 (max 0 x)) (BitVec.ofInt 64 n)).toNat*18446744073709551616+(BitVec.ofInt 64 (max 0 x)*BitVec.ofInt 64 n).toNat=(max 0 x).toNat*n.toNat:=by
   rw [zEP,zKB,e1,e2]
   exact Nat.div_add_mod' _ _
 rw [zOa,zQL (by omega),e,e3]
 unfold zED
 rw [zJz hc]
 generalize (max 0 x).toNat*n.toNat/d.toNat=Q
 clear e h e0 e1 e2 e3
 omega
def sP (b x y:Int):Int:=if b=0 then x else y
def sS1 (n d s t now want:Int):Int:=max s (min want (zC0 s (zED (zBV (max now t) t) n d)))
def sS (n d s t b now want:Int):Int:=sS1 n d (sP b want s) (sP b now t) now want
def sT (t b now:Int):Int:=max (sP b now t) now
theorem zS5 {x n d:Int} (hc:zHM n d=0):0≤zED x n d∧zED x n d≤9223372036854775807:=by
 unfold zED
 rw [zJz hc]
 have h:(0:Int)≤(((max 0 x).toNat*n.toNat/d.toNat:Nat):Int):=Int.natCast_nonneg _
 generalize (((max 0 x).toNat*n.toNat/d.toNat:Nat):Int)=Q at *
 omega
theorem zOQ {n:Nat} {x y:Int} (hc:n=0) (h:x=y):Value.tuple #[.int .i64 x,.int .i64 0]=Value.tuple #[.int .i64 (bif n==0 then y else 0),.int .i64 ((n:Nat):Int)]:=by rw [hc,h];rfl
theorem zX9 {n:Nat} (h:(n==0)=false) (y:Int):Value.tuple #[.int .i64 0,.int .i64 ((n:Nat):Int)]=Value.tuple #[.int .i64 (bif n==0 then y else 0),.int .i64 ((n:Nat):Int)]:=by rw [h];rfl
theorem zYj {x n d:Int} (hc:zHM n d=0) : -9223372036854775808≤zED x n d∧zED x n d≤9223372036854775807:=by
 have:=zS5 (x:=x) hc
 omega
structure zAS where
 ring:Int
 window:Int
 base:Int
 gain:Int
 least:Int
 most:Int
 slack:Int
 num:Int
 den:Int
 extra:Int
 curve:Bool
def zKW (c:zAS):Prop:=(c.base<0∨2305843009213693952<c.base)∨(c.least<0∨2305843009213693952<c.least)∨(c.most<0∨2305843009213693952<c.most)∨(c.slack<0∨2305843009213693952<c.slack)∨(c.gain<0∨68719476736<c.gain)
instance (c:zAS):Decidable (zKW c):=by unfold zKW;infer_instance
def zHL (c:zAS):Nat:=if zKW c then 3 else if c.most<c.least then 10 else 0
theorem zFb {c:zAS} (h:zKW c):3=zHL c:=(if_pos h).symm
theorem zYt {c:zAS} (h:¬ zKW c) (h2:c.most<c.least):10=zHL c:=by unfold zHL;rw [if_neg h,if_pos h2]
theorem zbM {c:zAS} (h:¬ zKW c) (h2:¬ c.most<c.least):0=zHL c:=by unfold zHL;rw [if_neg h,if_neg h2]
theorem zH0 {c:zAS} (h:zHL c=0):0≤c.base∧c.base≤2305843009213693952∧0≤c.least∧c.least≤c.most∧c.most≤2305843009213693952∧0≤c.slack∧c.slack≤2305843009213693952∧0≤c.gain∧c.gain≤68719476736:=by
 unfold zHL at h
 split at h
 ·cases h
 ·next h1 =>
  split at h
  ·cases h
  ·unfold zKW at h1;omega
def zIv (c:zAS) (j:Int):Int:=if zHL c≠0 then 0 else zAI (zC0 c.base (zA1 c.gain (max 0 j))) c.least c.most
theorem zal {c:zAS} {j:Int} (h:((zHL c:Nat):Int)≠0):0=zIv c j:=by unfold zIv;rw [if_pos (by omega)]
theorem zag {c:zAS} {j:Int} (h:((zHL c:Nat):Int)=0):zAI (zC0 c.base (zA1 c.gain (max 0 j))) c.least c.most=zIv c j:=by unfold zIv;rw [if_neg (by omega)]
theorem zKF {c:zAS} {j:Int} (h:zHL c=0):c.least≤zIv c j∧zIv c j≤c.most:=by
 have h2:=zH0 h
 unfold zIv zAI
 rw [if_neg (by omega)]
 omega
def zTS (c:zAS) (now j:Int):Int:=if c.slack<max (zIv c j-now) (now-zIv c j) then zIv c j else now
def dCh (c:zAS) (now j ch:Int):Int:=if c.slack<max (zIv c j-now) (now-zIv c j) then IntKind.i64.wrap (ch+1) else ch
theorem zTp {c:zAS} {now j:Int} (h:zHL c=0) (hn:c.least≤now∧now≤c.most):c.least≤zTS c now j∧zTS c now j≤c.most:=by
 unfold zTS
 split
 · exact zKF h
 · exact hn
def zEc (x y:Int):Int:=max 0 x+(max 0 y-max 0 x)/16
theorem zQX {x y:Int} (hx:x≤9223372036854775807) (hy:y≤9223372036854775807):0≤zEc x y∧zEc x y≤9223372036854775807:=by unfold zEc;omega
theorem zUj (x:Int):x.fdiv (2 ^ (min 4 64))=x/16:=by
 rw [Int.fdiv_eq_ediv_of_nonneg _ (by decide)];rfl
def zLk (c:zAS):Prop:=c.ring<1∨64<c.ring∨c.window<1∨64<c.window
instance (c:zAS):Decidable (zLk c):=by unfold zLk;infer_instance
def zCb (c:zAS):Nat:=if zLk c then 3 else if zHL c≠0 then zHL c else if zHM c.num c.den≠0∨c.extra<0∨2305843009213693952<c.extra then 3 else 0
theorem zNW {c:zAS} (h:zLk c):3=zCb c:=(if_pos h).symm
theorem zam {c:zAS} (h:¬ zLk c) (h2:((zHL c:Nat):Int)≠0):zHL c=zCb c:=by unfold zCb;rw [if_neg h,if_pos (by omega)]
theorem zRh {c:zAS} (h:¬ zLk c) (h2:((zHL c:Nat):Int)=0) (h3:((zHM c.num c.den:Nat):Int)≠0∨c.extra<0∨2305843009213693952<c.extra):3=zCb c:=by unfold zCb;rw [if_neg h,if_neg (by omega),if_pos (by omega)]
theorem zbC {c:zAS} (h:¬ zLk c) (h2:((zHL c:Nat):Int)=0) (h3:¬ (((zHM c.num c.den:Nat):Int)≠0∨c.extra<0∨2305843009213693952<c.extra)):0=zCb c:=by unfold zCb;rw [if_neg h,if_neg (by omega),if_neg (by omega)]
theorem zFh {c:zAS} (h:zCb c=0):(1≤c.ring∧c.ring≤64∧1≤c.window∧c.window≤64)∧zHL c=0∧zHM c.num c.den=0∧0≤c.extra∧c.extra≤2305843009213693952:=by
 unfold zCb at h
 split at h
 ·cases h
 ·next h1 =>
  split at h
  ·next h2=>exact absurd h h2
  ·next h2 =>
   split at h
   ·cases h
   ·next h3=>unfold zLk at h1;omega
def cW1 (t:Int):Int:=3*zA1 t t-2*zA1 (zA1 t t) t
def cW2 (t:Int):Int:=zA1 (zA1 t t) t-2*zA1 t t+t
def cW3 (t:Int):Int:=zA1 (zA1 t t) t-zA1 t t
theorem zHi {x y:Int} (hx:0≤x∧x≤65536) (hy:0≤y∧y≤65536):0≤zA1 x y∧zA1 x y≤65536:=by
 have h1:0≤x*y:=Int.mul_nonneg hx.1 hy.1
 have h2:x*y≤65536*65536:=Int.mul_le_mul hx.2 hy.2 hy.1 (by decide)
 unfold zA1 zDr
 generalize x*y=z at *
 omega
theorem zbu {t:Int} (h:0≤t∧t≤65536):(-131072≤cW1 t∧cW1 t≤196608)∧(-131072≤cW2 t∧cW2 t≤131072)∧(-65536≤cW3 t∧cW3 t≤65536):=by
 have h2:=zHi h h
 have h3:=zHi h2 h
 unfold cW1 cW2 cW3
 omega
def zZt (x p1 q1 p2 q2 p3 q3:Int):Int:=zC0 (zC0 (zC0 x (zA1 p1 q1)) (zA1 p2 q2)) (zA1 p3 q3)
def zcp (x u y v d t:Int):Int:=zAI (zZt x (cW1 t) (zBV y x) (cW2 t) (zA1 u d) (cW3 t) (zA1 v d)) x y
def cAt (x u y v n d:Int):Int:=if n=0 then x else if n=d then y else zcp x u y v d (zBr n d)
theorem zb5 {x u y v n d:Int} (h:n=0):x=cAt x u y v n d:=(if_pos h).symm
theorem zcJ {x u y v n d:Int} (h0:¬ n=0) (h:n=d):y=cAt x u y v n d:=by unfold cAt;rw [if_neg h0,if_pos h]
theorem zcS {x u y v n d:Int} (h0:¬ n=0) (h:¬ n=d):zcp x u y v d (zBr n d)=cAt x u y v n d:=by unfold cAt;rw [if_neg h0,if_neg h]
theorem zTC {n d:Int} (hc:zBP n d=0):0≤zBr n d∧zBr n d≤65536:=by
 obtain ⟨h1,h2,h3,h4⟩:=zE3 hc
 unfold zBr
 refine ⟨Int.ediv_nonneg (Int.mul_nonneg (by decide) h3) (by omega),?_⟩
 apply Int.ediv_le_of_le_mul (by omega)
 exact Int.mul_le_mul_of_nonneg_left h4 (by decide)
theorem zUn {n:Nat} {x y z:Int} (h:n=0):Value.tuple #[.agg #[.int .i64 x,.int .i64 y,.int .i64 z],.int .i64 0]=Value.tuple #[.agg #[.int .i64 (bif n==0 then x else 0),.int .i64 (bif n==0 then y else 0),.int .i64 (bif n==0 then z else 0)],.int .i64 ((n:Nat):Int)]:=by rw [h];rfl
theorem zSE {n:Nat} (h:(n==0)=false) (x y z:Int):Value.tuple #[.agg #[.int .i64 0,.int .i64 0,.int .i64 0],.int .i64 ((n:Nat):Int)]=Value.tuple #[.agg #[.int .i64 (bif n==0 then x else 0),.int .i64 (bif n==0 then y else 0),.int .i64 (bif n==0 then z else 0)],.int .i64 ((n:Nat):Int)]:=by rw [h];rfl
open Go.RowKit
variable {P : Program} {ops : Array Oper} {Q : Exit → Act → World → Prop} {rest : List Oper} {n : Nat} {F : List (Nat × Value)} {w0 : World} {S : List Nat} {M : List HA} {a : Act} {w : World}
theorem zXf (X:BitVec 16):IntKind.i16.wrap (X.toNat:Int)=X.toInt:=by
 have:=X.isLt
 rw [BitVec.toInt_eq_toNat_cond]
 have e:IntKind.i16.wrap (X.toNat:Int)=if decide ((X.toNat:Int)%65536≥32768)=true then (X.toNat:Int)%65536-65536 else (X.toNat:Int)%65536:=rfl
 rw [e]
 by_cases h:2*X.toNat<65536
 · rw [if_pos h,if_neg (by simp only [decide_eq_true_eq];omega)];omega
 · rw [if_neg h,if_pos (by simp only [decide_eq_true_eq];omega)];omega
theorem zJl {x:Operand} {p:Int} {kd:IntKind} {t t2:TypeId} {ds:TypeDesc} {X:BitVec 16} {d:Nat} {ty:TypeId} {pos:String} {af:Array Edge} (hs:St n F w0 S M a w) (hx:evo F x=some (.int kd p)) (hp:p=(X.toNat:Int)) (hsrc:P.underlying t=some ds) (hdst:P.underlying t2=some (.int .i16)) (hd:Nat.blt d n=true) (k:∀ a w,St n ((d,.int .i16 X.toInt)::F) w0 S M a w→wpList P ops Q rest a w):wpList P ops Q (⟨some d,.convert t t2 x,ty,pos,af,none⟩::rest) a w :=
 zM hs (by simp only [execOp,hs.ev hx,convert,Sem.run_bind,run_underlying hsrc,run_underlying hdst,Conv.intToInt];simp [-BitVec.toNat_setWidth,-BitVec.toNat_ofInt];rw [hp];exact zXf X) hd k
theorem zZY (X:BitVec 16) : -9223372036854775808≤X.toInt∧X.toInt≤9223372036854775807:=by
 rw [BitVec.toInt_eq_toNat_cond]
 have:=X.isLt
 split<;>omega
def aTo (A B:BitVec 16):Int:=(B-A).toInt
def aBy (A:BitVec 16) (n:Int):BitVec 16:=A+BitVec.ofInt 16 n
theorem zS2 (A B:BitVec 16) : -32768≤aTo A B∧aTo A B≤32767:=by
 unfold aTo
 rw [BitVec.toInt_eq_toNat_cond]
 have:=(B-A).isLt
 split<;>omega
def zQf (A B:BitVec 16) (num den:Int):BitVec 16:=aBy A (zCY 0 (aTo A B) num den)
def zPo (X A B:BitVec 16):Bool:=decide (min 0 (aTo A B)≤aTo A X) && decide (aTo A X≤max 0 (aTo A B))
theorem zLL {x y n d:Int} (hc:zBP n d=0):min x y≤zCY x y n d∧zCY x y n d≤max x y:=by
 obtain ⟨h1,h2,h3,h4⟩:=zE3 hc
 unfold zCY
 rcases Int.le_total x y with h | h
 · have e1:0≤(y-x)*n/d:=Int.ediv_nonneg (Int.mul_nonneg (by omega) h3) (by omega)
   have e2:(y-x)*n/d≤y-x:=by
     apply Int.ediv_le_of_le_mul (by omega)
     exact Int.mul_le_mul_of_nonneg_left h4 (by omega)
   omega
 · have e1 : y - x ≤ (y - x) * n / d := by
     rw [Int.le_ediv_iff_mul_le (by omega)]
     exact Int.mul_le_mul_of_nonpos_left (by omega) h4
   have e2:(y-x)*n/d≤0:=by
     have h6:(y-x)*n≤0:=Int.mul_nonpos_of_nonpos_of_nonneg (by omega) h3
     exact Int.ediv_nonpos_of_nonpos_of_neg h6 (by omega) |> id
   omega
theorem zU2 {num den:Int} {x y:BitVec 16} (hc:zBP num den=0) (h:x=y):Value.tuple #[.int .u16 ((x.toNat:Nat):Int),.int .i64 0]=Value.tuple #[.int .u16 (((bif zBP num den==0 then y else 0#16:BitVec 16).toNat:Nat):Int),.int .i64 ((zBP num den:Nat):Int)]:=by rw [hc,h];rfl
theorem zXC {n:Nat} (h:(n==0)=false) (y:BitVec 16):Value.tuple #[.int .u16 0,.int .i64 ((n:Nat):Int)]=Value.tuple #[.int .u16 (((bif n==0 then y else 0#16:BitVec 16).toNat:Nat):Int),.int .i64 ((n:Nat):Int)]:=by rw [h];rfl
def zIn (L:List RI) (t:Int):Nat→Option (Nat×Int)
 | 0=>none
 | k+1=>if (L.getD k default).tm≤t then some (k,if k+1=L.length then -1 else ((k+1:Nat):Int)) else zIn L t k
def zA7 (L:List RI) (t:Int):Int×Int×Nat :=
 if zDc none (tms L)≠0 then (0,0,zDc none (tms L)) else match zIn L t L.length with
 | some (i,nx)=>((i:Int),nx,0)
 | none=>(0,0,5)
theorem zXk {L:List RI} {t:Int} (h:((zDc none (tms L):Nat):Int)≠0):zA7 L t=(0,0,zDc none (tms L)):=if_pos (by omega)
theorem zYd {L:List RI} {t:Int} {i:Nat} {nx:Int} (h:((zDc none (tms L):Nat):Int)=0) (hp:zIn L t L.length=some (i,nx)):zA7 L t=((i:Int),nx,0):=by
 unfold zA7;rw [if_neg (by omega),hp]
theorem zZe {L:List RI} {t:Int} (h:((zDc none (tms L):Nat):Int)=0) (hp:zIn L t L.length=none):zA7 L t=(0,0,5):=by
 unfold zA7;rw [if_neg (by omega),hp]
theorem zLZ {L:List RI} {t:Int}:∀ {k i:Nat} {nx:Int},zIn L t k=some (i,nx)→i<k∧(L.getD i default).tm≤t∧nx=(if i+1=L.length then -1 else ((i+1:Nat):Int))∧∀ j,i<j→j<k→¬ (L.getD j default).tm≤t
 | 0,_,_,h=>by cases h
 | k+1,i,nx,h=>by
  unfold zIn at h
  split at h
  ·next hle=>cases h;exact ⟨Nat.lt_succ_self _,hle,rfl,λj h1 h2=>absurd h2 (by omega)⟩
  ·next hle =>
   obtain ⟨h1,h2,h3,h4⟩:=zLZ h
   refine ⟨by omega,h2,h3,λj hj1 hj2=>?_⟩
   by_cases e:j=k
   ·rw [e];exact hle
   ·exact h4 j hj1 (by omega)
theorem zOX {L:List RI} {t:Int} (h:(zA7 L t).2.2=0):zDc none (tms L)=0∧∃ i:Nat,i<L.length∧(zA7 L t).1=(i:Int)∧(L.getD i default).tm≤t∧(zA7 L t).2.1=(if i+1=L.length then -1 else ((i+1:Nat):Int))∧∀ j,i<j→j<L.length→t<(L.getD j default).tm:=by
 unfold zA7 at h ⊢
 by_cases he:zDc none (tms L)≠0
 ·rw [if_pos he] at h;exact absurd h he
 ·rw [if_neg he] at h ⊢
  cases hp:zIn L t L.length with
  | none=>rw [hp] at h;cases h
  | some p =>
   obtain ⟨i,nx⟩:=p
   obtain ⟨h1,h2,h3,h4⟩:=zLZ hp
   exact ⟨Decidable.not_not.1 he,i,h1,rfl,h2,h3,λj hj1 hj2=>by have:=h4 j hj1 hj2;omega⟩
theorem zXD {L:List RI} {t:Int} {k:Nat} (h:¬ (L.getD k default).tm≤t):zIn L t (k+1)=zIn L t k:=by
 show (if _ then _ else _)=_;rw [if_neg h]
theorem zTu {L:List RI} {t:Int} {k:Nat} (h:(L.getD k default).tm≤t):zIn L t (k+1)=some (k,if k+1=L.length then -1 else ((k+1:Nat):Int)):=by
 show (if _ then _ else _)=_;rw [if_pos h]
structure zFo where
 id:Int
 p0:Int
 p1:Int
 p2:Int
 a:BitVec 16
 m:Int
instance : Inhabited zFo:=⟨⟨0,0,0,0,0#16,0⟩⟩
def zBk (p:zFo):List Value:=[.int .i64 p.id,.int .i64 p.p0,.int .i64 p.p1,.int .i64 p.p2,.int .u16 ((p.a.toNat:Nat):Int),.int .i64 p.m]
theorem zLY (p:zFo):(zBk p).length=6:=rfl
def zEe : List RI→Nat
 | []=>0
 | x::l=>if zAB x.t x.tm x.l≠0 then zAB x.t x.tm x.l else zEe l
theorem zJH {L:List RI} {j:Nat} (h:j<L.length):zEe (L.drop j)=if zAB (L.getD j default).t (L.getD j default).tm (L.getD j default).l≠0 then zAB (L.getD j default).t (L.getD j default).tm (L.getD j default).l else zEe (L.drop (j+1)):=by
 rw [List.drop_eq_getElem_cons h,zEe,List.getD_eq_getElem?_getD,List.getElem?_eq_getElem h];rfl
theorem zPT {L:List RI} {j:Nat} {e:Nat} (h:j<L.length) (he:zEe (L.drop j)=e) (h0:((zAB (L.getD j default).t (L.getD j default).tm (L.getD j default).l:Nat):Int)=0):zEe (L.drop (j+1))=e:=by
 rw [← he,zJH h,if_neg (by omega)]
theorem zTG {L:List RI} {j:Nat} {e:Nat} (h:j<L.length) (he:zEe (L.drop j)=e) (h0:((zAB (L.getD j default).t (L.getD j default).tm (L.getD j default).l:Nat):Int)≠0):zAB (L.getD j default).t (L.getD j default).tm (L.getD j default).l=e:=by
 rw [← he,zJH h,if_pos (by omega)]
theorem zQy {L:List RI} {j:Nat} {e:Nat} (h:L.length≤j) (he:zEe (L.drop j)=e):0=e:=by
 rw [← he,List.drop_eq_nil_of_le h];rfl
theorem zLw {L:List RI} (h:zEe L=0):∀ x∈L,zAB x.t x.tm x.l=0:=by
 induction L with
 | nil=>intro x hx;cases hx
 | cons y l ih =>
  unfold zEe at h
  split at h
  ·next h2=>exact absurd h h2
  ·next h2 =>
   intro x hx
   rcases List.mem_cons.1 hx with e | e
   ·rw [e];exact Decidable.not_not.1 h2
   ·exact ih h x e
def zFY (c:zAS) (L:List RI):Nat:=if zCb c≠0 then zCb c else zEe L
theorem zbB {c:zAS} {L:List RI} (h:((zCb c:Nat):Int)≠0):zCb c=zFY c L:=(if_pos (by omega)).symm
theorem zWx {c:zAS} {L:List RI} {e:Nat} (h:((zCb c:Nat):Int)=0) (he:e=zEe L):e=zFY c L:=by unfold zFY;rw [if_neg (by omega),he]
theorem zMc {c:zAS} {L:List RI} (h:zFY c L=0):zCb c=0∧zEe L=0:=by
 unfold zFY at h
 split at h
 · next h2=>exact absurd h h2
 · next h2=>exact ⟨Decidable.not_not.1 h2,h⟩
def zCH (x:zS):zFo:=⟨x.id,x.p0,x.p1,x.p2,x.a,0⟩
def pL (n d x y:Int):Int:=bif zBP n d==0 then zCY x y n d else 0
def pC (n d x u y v:Int):Int:=bif zBP n d==0 then cAt x u y v n d else 0
def pA (n d:Int) (x y:BitVec 16):BitVec 16:=bif zBP n d==0 then zQf x y n d else 0#16
def pW (c:Bool) (n d x u y v:Int):Int:=bif c then pC n d x u y v else pL n d x y
def zcr (c:Bool) (n d:Int) (x y:zS):zFo:=⟨x.id,pW c n d x.p0 x.v0 y.p0 y.v0,pW c n d x.p1 x.v1 y.p1 y.v1,pW c n d x.p2 x.v2 y.p2 y.v2,pA n d x.a y.a,bif c then 2 else 1⟩
def zRm (c:Bool) (n d:Int) (B:List zS) (x:zS):zFo:=if (zT x.id B).isSome=true∧((zT x.id B).getD zAA).g=x.g then zcr c n d x ((zT x.id B).getD zAA) else zCH x
def zDT (c:zAS) (a b:RI) (t:Int):Nat:=if zFY c [a,b]≠0 then zFY c [a,b] else (zAp a b t).2.2
def zDR (c:zAS) (a b:RI) (t:Int):List zFo:=if zDT c a b t≠0 then [] else a.l.map (zRm c.curve (zAp a b t).1 (zAp a b t).2.1 b.l)
def zZs (m k:Int) (x:zS):zFo:=⟨x.id,zC0 x.p0 (zA1 x.v0 k),zC0 x.p1 (zA1 x.v1 k),zC0 x.p2 (zA1 x.v2 k),x.a,m⟩
def zDs (c:zAS) (x:RI) (t:Int):Nat:=if zFY c [x]≠0 then zFY c [x] else (zHG x t).2
def zHJ (c:zAS) (d:Int):Int:=if d=0 then 0 else if c.extra<d then 4 else 3
def zIu (c:zAS) (d:Int):Int:=if d=0 then d else if c.extra<d then c.extra else d
def zC6 (c:zAS) (x:RI) (t:Int):List zFo:=if zDs c x t≠0 then [] else x.l.map (zZs (zHJ c (zHG x t).1) (zIu c (zHG x t).1))
def zDf (c:zAS) (L:List RI) (t:Int):List zFo×Nat :=
 if zFY c L≠0 then ([],zFY c L) else if (zA7 L t).2.2≠0 then ([],(zA7 L t).2.2)
 else if (zA7 L t).2.1<0 then (zC6 c (L.getD (zA7 L t).1.toNat default) t,zDs c (L.getD (zA7 L t).1.toNat default) t)
 else (zDR c (L.getD (zA7 L t).1.toNat default) (L.getD (zA7 L t).2.1.toNat default) t,zDT c (L.getD (zA7 L t).1.toNat default) (L.getD (zA7 L t).2.1.toNat default) t)
structure RI.ok (w:World) (x:RI):Prop where
 t : -9223372036854775808≤x.t∧x.t≤9223372036854775807
 tm : -9223372036854775808≤x.tm∧x.tm≤9223372036854775807
 rd:Rd w [] x.v 9 x.l.length (x.l.flatMap zBI)
 wf:∀ e∈x.l,e.wf
theorem RI.ok.to {x:RI} {w0 w:World} {M:List HA} (h:x.ok w0) (hm:Mem w0 [] M w):x.ok w:=⟨h.t,h.tm,hm.rd0 h.rd,h.wf⟩
theorem zaH {x:RI} {w:World} (h:x.ok w):∀ z∈[x],z.ok w:=by
 intro z hz;rw [List.mem_singleton] at hz;rw [hz];exact h
theorem zaJ {x y:RI} {w:World} (h:x.ok w) (h2:y.ok w):∀ z∈[x,y],z.ok w:=by
 intro z hz;rw [List.mem_cons,List.mem_singleton] at hz;rcases hz with e | e<;>rw [e]<;>assumption
theorem zbH {L:List RI} {w:World} (h:∀ x∈L,x.ok w):∀ x∈L,zDj x.v x.l.length:=λx hx=>(h x hx).rd.isSl
theorem zCj {f:zS→zFo} {l:List zS} {j:Nat} (h:j<l.length):(l.take j).map f++[f (l.getD j default)]=(l.take (j+1)).map f:=by
 rw [List.take_succ_eq_append_getElem h,List.map_append,List.getD_eq_getElem?_getD,List.getElem?_eq_getElem h];rfl
theorem zMS : zAA.wf:=by constructor<;>(show _≤(0:Int)∧(0:Int)≤_;omega)
theorem zZH {l:List zS} {k:Int} (h:∀ e∈l,e.wf):((zT k l).getD zAA).wf:=by
 cases hg:zT k l with
 | none=>exact zMS
 | some e=>exact h e (zGV hg).1
theorem zHa {c:zAS} {L:List RI} {x:RI} (h:zFY c L=0) (hx:x∈L):x.l.length≤64:=by
 have h1:=zLw (zMc h).2 x hx
 unfold zAB at h1
 split at h1
 ·cases h1
 ·split at h1
  ·cases h1
  ·omega
theorem zNy (x:RI) (t:Int) : -9223372036854775808≤(zHG x t).1∧(zHG x t).1≤9223372036854775807:=by
 unfold zHG
 split
 ·dsimp only;omega
 ·split
  ·dsimp only;omega
  ·exact zB8 _ _
theorem zFE {c:zAS} {d:Int} (h:d=0):0=zHJ c d∧d=zIu c d:=by unfold zHJ zIu;rw [if_pos h,if_pos h];exact ⟨rfl,rfl⟩
theorem zFN {c:zAS} {d:Int} (h:d≠0) (h2:c.extra<d):4=zHJ c d∧c.extra=zIu c d:=by unfold zHJ zIu;rw [if_neg h,if_neg h,if_pos h2,if_pos h2];exact ⟨rfl,rfl⟩
theorem zFG {c:zAS} {d:Int} (h:d≠0) (h2:¬ c.extra<d):3=zHJ c d∧d=zIu c d:=by unfold zHJ zIu;rw [if_neg h,if_neg h,if_neg h2,if_neg h2];exact ⟨rfl,rfl⟩
theorem zXo {c:zAS} {x:RI} {t:Int} (h:((zFY c [x]:Nat):Int)≠0):zDs c x t=zFY c [x]:=if_pos (by omega)
theorem zTI {c:zAS} {x:RI} {t:Int} (h:zFY c [x]=0):zDs c x t=(zHG x t).2:=by unfold zDs;rw [if_neg (by omega)]
theorem zYa {c:zAS} {x:RI} {t:Int} (h:zDs c x t=0):zC6 c x t=x.l.map (zZs (zHJ c (zHG x t).1) (zIu c (zHG x t).1)):=by unfold zC6;rw [if_neg (by omega)]
theorem zRs {c:zAS} {x:RI} {t:Int} (h:((zDs c x t:Nat):Int)≠0):zC6 c x t=[]:=by unfold zC6;rw [if_pos (by omega)]
theorem zZF {c:zAS} {x y:RI} {t:Int} (h:((zFY c [x,y]:Nat):Int)≠0):zDT c x y t=zFY c [x,y]:=if_pos (by omega)
theorem zQi {c:zAS} {x y:RI} {t:Int} (h:zFY c [x,y]=0):zDT c x y t=(zAp x y t).2.2:=by unfold zDT;rw [if_neg (by omega)]
theorem zXy {c:zAS} {x y:RI} {t:Int} (h:zDT c x y t=0):zDR c x y t=x.l.map (zRm c.curve (zAp x y t).1 (zAp x y t).2.1 y.l):=by unfold zDR;rw [if_neg (by omega)]
theorem zRX {c:zAS} {x y:RI} {t:Int} (h:((zDT c x y t:Nat):Int)≠0):zDR c x y t=[]:=by unfold zDR;rw [if_pos (by omega)]
theorem zY1 {c:zAS} {L:List RI} {t:Int} (h:((zFY c L:Nat):Int)≠0):zDf c L t=([],zFY c L):=if_pos (by omega)
theorem zXv {c:zAS} {L:List RI} {t:Int} (h:zFY c L=0) (h2:(((zA7 L t).2.2:Nat):Int)≠0):zDf c L t=([],(zA7 L t).2.2):=by unfold zDf;rw [if_neg (by omega),if_pos (by omega)]
theorem zYn {c:zAS} {L:List RI} {t:Int} {i:Nat} (h:zFY c L=0) (h2:(zA7 L t).2.2=0) (h3:(zA7 L t).1=(i:Int)) (h4:(zA7 L t).2.1<0):zDf c L t=(zC6 c (L.getD i default) t,zDs c (L.getD i default) t):=by
 unfold zDf;rw [if_neg (by omega),if_neg (by omega),if_pos h4,h3];rfl
theorem zW9 {c:zAS} {L:List RI} {t:Int} {i k:Nat} (h:zFY c L=0) (h2:(zA7 L t).2.2=0) (h3:(zA7 L t).1=(i:Int)) (h4:(zA7 L t).2.1=(k:Int)):zDf c L t=(zDR c (L.getD i default) (L.getD k default) t,zDT c (L.getD i default) (L.getD k default) t):=by
 unfold zDf;rw [if_neg (by omega),if_neg (by omega),if_neg (by omega),h3,h4];rfl
theorem zSj {l:List zS} {i:Nat} (h:i<l.length):l.getD i default∈l:=by
 rw [List.getD_eq_getElem?_getD,List.getElem?_eq_getElem h];exact List.getElem_mem h
theorem zcv {b:Bool} {q:Prop} (h:b=false):¬ (b=true∧q):=λk=>by rw [h] at k;cases k.1
theorem zcw {p:Prop} {a b:BitVec 8} (h:((a.toNat:Nat):Int)≠((b.toNat:Nat):Int)):¬ (p∧a=b):=λk=>h (by rw [k.2])
theorem zQ9 {c:Bool} {n d:Int} {B:List zS} {x:zS} (h:(zT x.id B).isSome=true∧((zT x.id B).getD zAA).g=x.g):zRm c n d B x=zcr c n d x ((zT x.id B).getD zAA):=if_pos h
theorem zMk {c:Bool} {n d:Int} {B:List zS} {x:zS} (h:¬ ((zT x.id B).isSome=true∧((zT x.id B).getD zAA).g=x.g)):zRm c n d B x=zCH x:=if_neg h
end Go.Sx
