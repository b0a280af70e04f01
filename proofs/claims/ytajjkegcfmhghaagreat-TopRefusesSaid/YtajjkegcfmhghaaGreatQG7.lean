import Derived.Test.YtajjkegcfmhghaaGreatQSxBasB
import Derived.Test.YtajjkegcfmhghaaGreatQSxRecs
import Derived.Lib.Mul64
import Derived.Test.YtajjkegcfmhghaaGreatQSxStos
set_option linter.unusedVariables false
set_option linter.unusedSimpArgs false
namespace Go.Sx
theorem zSX {u v yn1 yn0 un1:Nat} (hv:v=yn1*4294967296+yn0) (h1:2147483648≤yn1) (hun:un1<4294967296):(u*4294967296+un1)/v≤u/yn1:=by
 have e:(u*4294967296+un1)/(yn1*4294967296)=u/yn1:=by
  rw [Nat.mul_comm yn1,← Nat.div_div_eq_div_mul]
  congr 1
  omega
 rw [← e]
 exact Nat.div_le_div_left (by omega) (by omega)
theorem zOD (q yn1 yn0:Nat):q*(yn1*4294967296+yn0)=q*yn1*4294967296+q*yn0:=by rw [Nat.mul_add,Nat.mul_assoc]
theorem zUp {u v yn1 yn0 un1 q r:Nat} (hv:v=yn1*4294967296+yn0) (hu:u<v) (hun:un1<4294967296) (hq:q*yn1+r=u) (hc:4294967296≤q∨4294967296*r+un1<q*yn0):(u*4294967296+un1)/v≤q-1:=by
 have h:u*4294967296+un1<v*q:=by
  rw [Nat.mul_comm v,hv,zOD]
  rcases hc with hc | hc
  ·have h1:4294967296*v≤q*v:=Nat.mul_le_mul_right _ hc
   have h2:q*v=q*yn1*4294967296+q*yn0:=by rw [hv,zOD]
   omega
  ·generalize q*yn1=p1 at *
   generalize q*yn0=p0 at *
   omega
 have:=Nat.div_lt_of_lt_mul h
 omega
theorem zRa {u v yn1 yn0 un1 q r:Nat} (hv:v=yn1*4294967296+yn0) (h0:0<v) (hq:q*yn1+r=u) (hg:(u*4294967296+un1)/v≤q) (hc:q*yn0≤4294967296*r+un1):q=(u*4294967296+un1)/v:=by
 refine Nat.le_antisymm ?_ hg
 rw [Nat.le_div_iff_mul_le h0,hv,zOD]
 generalize q*yn1=p1 at *
 generalize q*yn0=p0 at *
 omega
theorem zR7 {u v yn1 yn0 un1 q r:Nat} (hv:v=yn1*4294967296+yn0) (h1:2147483648≤yn1) (hy0:yn0<4294967296) (hu:u<v) (hq:q*yn1+r=u) (hg:(u*4294967296+un1)/v≤q) (hr:4294967296≤r):q=(u*4294967296+un1)/v:=by
 refine zRa hv (by omega) hq hg ?_
 have h2:q<4294967296:=by
  apply Nat.lt_of_mul_lt_mul_right (a:=yn1)
  generalize q*yn1=p1 at *
  omega
 have h3:q*yn0≤4294967295*yn0:=Nat.mul_le_mul_right _ (by omega)
 omega
theorem zXL {u v un1:Nat} (hu:u<v) (hun:un1<4294967296):(u*4294967296+un1)/v<4294967296:=by
 apply Nat.div_lt_of_lt_mul
 have:v*4294967296=4294967296*v:=Nat.mul_comm _ _
 omega
theorem zai {u v un1 un0 : Nat} (h0 : 0 < v) : (u * 18446744073709551616 + un1 * 4294967296 + un0) / v = (u * 4294967296 + un1) / v * 4294967296 + (((u * 4294967296 + un1) % v) * 4294967296 + un0) / v ∧
   (u*18446744073709551616+un1*4294967296+un0)%v=(((u*4294967296+un1)%v)*4294967296+un0)%v:=by
 have e:u*18446744073709551616+un1*4294967296+un0=v*((u*4294967296+un1)/v*4294967296)+(((u*4294967296+un1)%v)*4294967296+un0):=by
   have h:=Nat.div_add_mod (u*4294967296+un1) v
   rw [← Nat.mul_assoc]
   generalize v*((u*4294967296+un1)/v)=p at *
   omega
 constructor
 · rw [e,Nat.mul_add_div h0]
 · rw [e,Nat.mul_add_mod]
theorem zSe {n y k:Nat} (hk:0<k):n*k/(y*k)=n/y∧n*k%(y*k)/k=n%y:=by
 constructor
 · exact Nat.mul_div_mul_right _ _ hk
 · rw [Nat.mul_mod_mul_right,Nat.mul_div_cancel _ hk]
def zD7 (x:Int):Int:=max (-9223372036854775808) (min 9223372036854775807 x)
theorem zI3 (x:Int) : -9223372036854775808≤zD7 x∧zD7 x≤9223372036854775807:=by unfold zD7;omega
def stp (b:Bool):Int:=bif b then -9223372036854775808 else 9223372036854775807
def zDD (a b:Int):Int:=zD7 (a+b)
def zBZ (a b:Int):Int:=zD7 (a-b)
def zA0 (a b:Int):Int:=zD7 (a*b/65536)
def zHk (x a b:Int):Int:=min (max x (min a b)) (max a b)
def zBq (num den:Int):Nat:=if den<1∨4611686018427387904<den∨num<0∨den<num then 3 else 0
def zDF (a b num den:Int):Int:=a+(b-a)*num/den
def zBx (num den:Int):Int:=65536*num/den
theorem zLN (a b:Int) : -9223372036854775808≤zDD a b∧zDD a b≤9223372036854775807:=zI3 _
theorem zCG (a b:Int) : -9223372036854775808≤zBZ a b∧zBZ a b≤9223372036854775807:=zI3 _
theorem zCz (a b:Int) : -9223372036854775808≤zA0 a b∧zA0 a b≤9223372036854775807:=zI3 _
theorem zOl {p q:Prop} [Decidable p] [Decidable q] (h:(decide p==decide q)=true):p↔q:=by simpa using h
theorem zO8 {p q:Prop} [Decidable p] [Decidable q] (h:(decide p==decide q)=false):¬(p↔q):=λe=>by rw [show decide p=decide q from decide_eq_decide.2 e] at h;simp at h
def zAs (a:Int):BitVec 64:=if a<0 then -BitVec.ofInt 64 a else BitVec.ofInt 64 a
theorem zMr {a:Int} (h1 : -9223372036854775808≤a) (h2:a≤9223372036854775807):(zAs a).toNat=a.natAbs:=by
 unfold zAs
 split
 ·rw [BitVec.toNat_neg,BitVec.toNat_ofInt]
  omega
 ·rw [BitVec.toNat_ofInt]
  omega
def mHi (X Y:BitVec 64):BitVec 64:=BitVec.ofNat 64 (X.toNat*Y.toNat/18446744073709551616)
theorem zEh (X Y:BitVec 64):(mHi X Y).toNat=X.toNat*Y.toNat/18446744073709551616:=by
 unfold mHi
 rw [BitVec.toNat_ofNat]
 have h:X.toNat*Y.toNat/18446744073709551616<18446744073709551616:=by
  apply Nat.div_lt_of_lt_mul
  exact Nat.mul_lt_mul'' X.isLt Y.isLt
 exact Nat.mod_eq_of_lt h
theorem zLF (X Y:BitVec 64):(X*Y).toNat=X.toNat*Y.toNat%18446744073709551616:=BitVec.toNat_mul X Y
theorem zQU (X:BitVec 64):(X&&&4294967295#64).toNat=X.toNat%4294967296:=by
 rw [BitVec.toNat_and]
 exact Nat.and_two_pow_sub_one_eq_mod X.toNat 32
theorem zPr (X:BitVec 64):(X>>>32).toNat=X.toNat/4294967296:=by
 rw [BitVec.toNat_ushiftRight,Nat.shiftRight_eq_div_pow]
theorem zb6 (X Y : BitVec 64) : (X >>> 32) * (Y >>> 32) + (((X >>> 32) * (Y &&& 4294967295#64) + ((X &&& 4294967295#64) * (Y &&& 4294967295#64)) >>> 32) >>> 32) +
   ((((X>>>32)*(Y&&&4294967295#64)+((X&&&4294967295#64)*(Y&&&4294967295#64))>>>32)&&&4294967295#64)+(X&&&4294967295#64)*(Y>>>32))>>>32=mHi X Y:=by
 apply BitVec.eq_of_toNat_eq
 obtain ⟨bd,bt,bw,hhi⟩:=Lib.mul64_hi X.toNat Y.toNat X.isLt Y.isLt
 have ba:=Lib.half_mul_le (a:=X.toNat/4294967296) (b:=Y.toNat/4294967296) (by have:=X.isLt;omega) (by have:=Y.isLt;omega)
 have bb:=Lib.half_mul_le (a:=X.toNat/4294967296) (b:=Y.toNat%4294967296) (by have:=X.isLt;omega) (by omega)
 have bc:=Lib.half_mul_le (a:=X.toNat%4294967296) (b:=Y.toNat/4294967296) (by omega) (by have:=Y.isLt;omega)
 rw [zEh,← hhi]
 simp only [BitVec.toNat_add,BitVec.toNat_mul,zQU,zPr]
 generalize X.toNat/4294967296*(Y.toNat/4294967296)=a at *
 generalize X.toNat/4294967296*(Y.toNat%4294967296)=b at *
 generalize X.toNat%4294967296*(Y.toNat/4294967296)=c at *
 generalize X.toNat%4294967296*(Y.toNat%4294967296)=d at *
 omega
def flo (n:Nat) (more minus:Bool):Int:=bif minus then zD7 (-((n+(bif more then 1 else 0):Nat):Int)) else zD7 (n:Int)
theorem zVa {n:Nat} {more minus:Bool} (h:minus=false) (h2:9223372036854775807<(n:Int)):stp false=flo n more minus:=by
 subst h;unfold flo stp zD7;simp only [cond_false];omega
theorem zVk {X:BitVec 64} {more minus:Bool} (h:minus=false) (h2:¬ 9223372036854775807<((X.toNat:Nat):Int)):X.toInt=flo X.toNat more minus:=by
 subst h;unfold flo zD7;simp only [cond_false]
 rw [BitVec.toInt_eq_toNat_cond]
 split<;>omega
theorem zZQ {X:BitVec 64} (h:X.toNat≤9223372036854775808):(-X).toInt = -((X.toNat:Nat):Int):=by
 rw [BitVec.toInt_eq_toNat_cond,BitVec.toNat_neg]
 split<;>omega
theorem zVN {X:BitVec 64} (h:X.toNat≠18446744073709551615):(X+1#64).toNat=X.toNat+1:=by
 rw [BitVec.toNat_add]
 have:=X.isLt
 have e:(1#64).toNat=1:=rfl
 omega
theorem zTE {X X' : BitVec 64} {more minus : Bool} (h : ¬ minus = false) (hX : X'.toNat = X.toNat + (bif more then 1 else 0) ∨ X'.toNat = X.toNat ∧ X.toNat = 18446744073709551615) :
   (9223372036854775808<((X'.toNat:Nat):Int)→stp true=flo X.toNat more minus)∧(¬ 9223372036854775808<((X'.toNat:Nat):Int)→(-X').toInt=flo X.toNat more minus):=by
 have e:minus=true:=by simpa using h
 subst e
 constructor
 · intro h2
   unfold flo stp zD7
   simp only [cond_true]
   cases more<;>simp only [cond_true,cond_false] at hX ⊢ <;> omega
 · intro h2
   rw [zZQ (by omega)]
   unfold flo zD7
   simp only [cond_true]
   cases more<;>simp only [cond_true,cond_false] at hX ⊢ <;> omega
theorem zbK {X : BitVec 64} {more minus : Bool} (h : minus = true) (h1 : more = true) (h2 : ((X.toNat : Nat) : Int) ≠ 18446744073709551615) :
   (9223372036854775808<(((X+1#64).toNat:Nat):Int)→stp true=flo X.toNat more minus)∧(¬ 9223372036854775808<(((X+1#64).toNat:Nat):Int)→(-(X+1#64)).toInt=flo X.toNat more minus) :=
 zTE (by rw [h];simp) (.inl (by rw [zVN (by omega),h1];rfl))
theorem zWD {X : BitVec 64} {more minus : Bool} (h : minus = true) (h1 : more = false ∨ ((X.toNat : Nat) : Int) = 18446744073709551615) :
   (9223372036854775808<((X.toNat:Nat):Int)→stp true=flo X.toNat more minus)∧(¬ 9223372036854775808<((X.toNat:Nat):Int)→(-X).toInt=flo X.toNat more minus) :=
 zTE (by rw [h];simp) (by rcases h1 with h1 | h1;left;rw [h1];rfl;right;omega)
theorem zSj (x y:Int):x*y=bif !(decide (x<0)==decide (y<0)) then -((x.natAbs*y.natAbs:Nat):Int) else ((x.natAbs*y.natAbs:Nat):Int):=by
 have hc:((x.natAbs*y.natAbs:Nat):Int)=(x.natAbs:Int)*(y.natAbs:Int):=Int.natCast_mul _ _
 rw [hc]
 by_cases hx:x<0<;>by_cases hy:y<0
 ·have ex:(x.natAbs:Int) = -x:=by omega
  have ey:(y.natAbs:Int) = -y:=by omega
  rw [ex,ey];simp [hx,hy,Int.neg_mul,Int.mul_neg]
 ·have ex:(x.natAbs:Int) = -x:=by omega
  have ey:(y.natAbs:Int)=y:=by omega
  rw [ex,ey];simp [hx,hy,Int.neg_mul,Int.mul_neg]
 ·have ex:(x.natAbs:Int)=x:=by omega
  have ey:(y.natAbs:Int) = -y:=by omega
  rw [ex,ey];simp [hx,hy,Int.neg_mul,Int.mul_neg]
 ·have ex:(x.natAbs:Int)=x:=by omega
  have ey:(y.natAbs:Int)=y:=by omega
  rw [ex,ey];simp [hx,hy,Int.neg_mul,Int.mul_neg]
theorem zcP (P:Nat):P/65536+(bif decide (P%65536≠0) then 1 else 0)=(P+65535)/65536:=by
 by_cases h:P%65536=0
 · rw [show decide (P%65536≠0)=false from decide_eq_false (λe=>e h),cond_false];omega
 · rw [show decide (P%65536≠0)=true from decide_eq_true h,cond_true];omega
theorem zZC (P:Nat) (mi:Bool):flo (P/65536) (decide (P%65536≠0)) mi=zD7 ((bif mi then -(P:Int) else (P:Int))/65536):=by
 unfold flo
 rw [zcP]
 cases mi
 · simp only [cond_false];congr 1
 · simp only [cond_true];congr 1;omega
theorem zOf {x y:Int} (hx : -9223372036854775808≤x∧x≤9223372036854775807) (hy : -9223372036854775808≤y∧y≤9223372036854775807):(zAs x).toNat*(zAs y).toNat=x.natAbs*y.natAbs:=by
 rw [zMr hx.1 hx.2,zMr hy.1 hy.2]
theorem zaZ {x y:Int} (hx : -9223372036854775808≤x∧x≤9223372036854775807) (hy : -9223372036854775808≤y∧y≤9223372036854775807) (h:(((mHi (zAs x) (zAs y)>>>16).toNat:Nat):Int)≠0):stp (!(decide (x<0)==decide (y<0)))=zA0 x y:=by
 unfold zA0
 rw [zSj x y]
 rw [BitVec.toNat_ushiftRight,zEh,zOf hx hy,Nat.shiftRight_eq_div_pow] at h
 generalize x.natAbs*y.natAbs=P at *
 have h2:P/18446744073709551616/65536≠0:=λe=>h (by rw [show (2:Nat) ^ 16=65536 from rfl,e];rfl)
 generalize (!(decide (x<0)==decide (y<0)))=mi
 unfold stp zD7
 cases mi<;>simp only [cond_true,cond_false]<;>omega
theorem zYE {A B:BitVec 64} (hA:A.toNat<65536):((A<<<48)|||(B>>>16)).toNat=A.toNat*281474976710656+B.toNat/65536:=by
 have hb:B.toNat/65536<2 ^ 48:=by have:=B.isLt;omega
 rw [BitVec.toNat_or,BitVec.toNat_shiftLeft,BitVec.toNat_ushiftRight,Nat.shiftRight_eq_div_pow]
 rw [show A.toNat<<<48%2 ^ 64=A.toNat<<<48 by rw [Nat.shiftLeft_eq];omega]
 rw [← Nat.shiftLeft_add_eq_or_of_lt hb,Nat.shiftLeft_eq]
theorem zTx {x y : Int} (hx : -9223372036854775808 ≤ x ∧ x ≤ 9223372036854775807) (hy : -9223372036854775808 ≤ y ∧ y ≤ 9223372036854775807) (h : ¬ (((mHi (zAs x) (zAs y) >>> 16).toNat : Nat) : Int) ≠ 0) :
   flo (((mHi (zAs x) (zAs y))<<<48)|||((zAs x*zAs y)>>>16)).toNat (!((((zAs x*zAs y)<<<48).toNat:Nat):Int)==0) (!(decide (x<0)==decide (y<0)))=zA0 x y:=by
 unfold zA0
 rw [zSj x y,← zZC]
 have hP:=zOf hx hy
 rw [BitVec.toNat_ushiftRight,zEh,hP,Nat.shiftRight_eq_div_pow] at h
 have h2:x.natAbs*y.natAbs/18446744073709551616<65536:=by
   have:((x.natAbs*y.natAbs/18446744073709551616/65536:Nat):Int)=0:=by simpa using h
   omega
 have e1:(((mHi (zAs x) (zAs y))<<<48)|||((zAs x*zAs y)>>>16)).toNat=x.natAbs*y.natAbs/65536:=by
   rw [zYE (by rw [zEh,hP];exact h2),zEh,zLF,hP]
   omega
 have e2:(!((((zAs x*zAs y)<<<48).toNat:Nat):Int)==0)=decide (x.natAbs*y.natAbs%65536≠0):=by
   rw [BitVec.toNat_shiftLeft,zLF,hP,Nat.shiftLeft_eq]
   generalize x.natAbs*y.natAbs=P
   rw [Bool.eq_iff_iff,Bool.not_eq_true',beq_eq_false_iff_ne,decide_eq_true_eq]
   omega
 rw [e1,e2]
def dQ (H L Y:BitVec 64):BitVec 64:=BitVec.ofNat 64 ((H.toNat*18446744073709551616+L.toNat)/Y.toNat)
def dR (H L Y:BitVec 64):BitVec 64:=BitVec.ofNat 64 ((H.toNat*18446744073709551616+L.toNat)%Y.toNat)
theorem zTB {H L Y:BitVec 64} (h:H.toNat<Y.toNat):(dQ H L Y).toNat=(H.toNat*18446744073709551616+L.toNat)/Y.toNat:=by
 unfold dQ
 rw [BitVec.toNat_ofNat]
 refine Nat.mod_eq_of_lt (Nat.div_lt_of_lt_mul ?_)
 have hl:=L.isLt
 have h2:(H.toNat+1)*18446744073709551616≤Y.toNat*18446744073709551616:=Nat.mul_le_mul_right _ h
 rw [show (2:Nat) ^ 64=18446744073709551616 from rfl] at hl ⊢
 omega
theorem zRl {H L Y:BitVec 64} (h:H.toNat<Y.toNat):(dR H L Y).toNat=(H.toNat*18446744073709551616+L.toNat)%Y.toNat:=by
 unfold dR
 rw [BitVec.toNat_ofNat]
 refine Nat.mod_eq_of_lt ?_
 have h1:=Nat.mod_lt (H.toNat*18446744073709551616+L.toNat) (Nat.lt_of_le_of_lt (Nat.zero_le _) h)
 have h2:=Y.isLt
 omega
structure Dig (V y1 y0 U B:BitVec 64):Prop where
 hv:V.toNat=y1.toNat*4294967296+y0.toNat
 h1:2147483648≤y1.toNat
 l1:y1.toNat<4294967296
 l0:y0.toNat<4294967296
 hu:U.toNat<V.toNat
 hb:B.toNat<4294967296
theorem Dig.first {V y1 y0 U B:BitVec 64} (h:Dig V y1 y0 U B):(U/y1).toNat*y1.toNat+(U-U/y1*y1).toNat=U.toNat∧(U.toNat*4294967296+B.toNat)/V.toNat≤(U/y1).toNat∧(U-U/y1*y1).toNat<4294967296:=by
 have e:(U/y1).toNat=U.toNat/y1.toNat:=BitVec.toNat_udiv
 have h2:=Nat.div_add_mod U.toNat y1.toNat
 have h3:=Nat.mod_lt U.toNat (show y1.toNat > 0 by have:=h.h1;omega)
 have hl:=h.l1
 have hU:=U.isLt
 rw [Nat.mul_comm] at h2
 have e2:(U/y1*y1).toNat=U.toNat/y1.toNat*y1.toNat:=by
  rw [BitVec.toNat_mul,e]
  exact Nat.mod_eq_of_lt (by omega)
 have e3:(U-U/y1*y1).toNat=U.toNat%y1.toNat:=by
  rw [BitVec.toNat_sub,e2]
  generalize U.toNat/y1.toNat*y1.toNat=p at *
  omega
 refine ⟨by rw [e,e3];exact h2,by rw [e];exact zSX h.hv h.h1 h.hb,by rw [e3];omega⟩
theorem Dig.small {V y1 y0 U B q r:BitVec 64} (h:Dig V y1 y0 U B) (h0:q.toNat*y1.toNat+r.toNat=U.toNat) (h2:r.toNat<4294967296):(4294967296#64*r+B).toNat=4294967296*r.toNat+B.toNat∧(q.toNat<4294967296→(q*y0).toNat=q.toNat*y0.toNat)∧(r+y1).toNat=r.toNat+y1.toNat:=by
 have hb:=h.hb
 have hl:=h.l1
 refine ⟨?_,λhq=>?_,?_⟩
 ·rw [BitVec.toNat_add,BitVec.toNat_mul]
  rw [show (4294967296#64).toNat=4294967296 from rfl]
  omega
 ·rw [BitVec.toNat_mul]
  refine Nat.mod_eq_of_lt ?_
  exact Nat.lt_of_le_of_lt (Nat.mul_le_mul (Nat.le_of_lt_succ hq) (Nat.le_of_lt_succ h.l0)) (by decide)
 ·rw [BitVec.toNat_add];omega
theorem Dig.more {V y1 y0 U B q r : BitVec 64} (h : Dig V y1 y0 U B) (h0 : q.toNat * y1.toNat + r.toNat = U.toNat) (hg : (U.toNat * 4294967296 + B.toNat) / V.toNat ≤ q.toNat) (h2 : r.toNat < 4294967296)
   (hc:4294967296≤q.toNat∨q.toNat<4294967296∧(4294967296#64*r+B).toNat<(q*y0).toNat) :
   (q-1#64).toNat*y1.toNat+(r+y1).toNat=U.toNat∧(U.toNat*4294967296+B.toNat)/V.toNat≤(q-1#64).toNat∧(q-1#64).toNat<q.toNat∧(r+y1).toNat=r.toNat+y1.toNat:=by
 obtain ⟨e1,e2,e3⟩:=h.small h0 h2
 have hc2:4294967296≤q.toNat∨4294967296*r.toNat+B.toNat<q.toNat*y0.toNat:=by
   rcases hc with hc | ⟨hc,hc2⟩
   · exact .inl hc
   · rw [e1,e2 hc] at hc2;exact .inr hc2
 have hp:0<q.toNat:=by
   rcases Nat.eq_zero_or_pos q.toNat with h5 | h5
   · rw [h5,Nat.zero_mul] at hc2;omega
   · exact h5
 have e4:(q-1#64).toNat=q.toNat-1:=by
   rw [BitVec.toNat_sub,show (1#64).toNat=1 from rfl]
   have:=q.isLt
   omega
 refine ⟨?_,by rw [e4];exact zUp h.hv h.hu h.hb h0 hc2,by omega,e3⟩
 rw [e4,e3,Nat.sub_mul,Nat.one_mul]
 have:1*y1.toNat≤q.toNat*y1.toNat:=Nat.mul_le_mul_right _ hp
 generalize q.toNat*y1.toNat=p at *
 omega
theorem Dig.done {V y1 y0 U B q r : BitVec 64} (h : Dig V y1 y0 U B) (h0 : q.toNat * y1.toNat + r.toNat = U.toNat) (hg : (U.toNat * 4294967296 + B.toNat) / V.toNat ≤ q.toNat) (h2 : r.toNat < 4294967296)
   (hc:q.toNat<4294967296) (hc2:(q*y0).toNat≤(4294967296#64*r+B).toNat):q.toNat=(U.toNat*4294967296+B.toNat)/V.toNat:=by
 obtain ⟨e1,e2,e3⟩:=h.small h0 h2
 rw [e1,e2 hc] at hc2
 exact zRa h.hv (by have:=h.hu;omega) h0 hg hc2
theorem Dig.brk {V y1 y0 U B q r:BitVec 64} (h:Dig V y1 y0 U B) (h0:q.toNat*y1.toNat+r.toNat=U.toNat) (hg:(U.toNat*4294967296+B.toNat)/V.toNat≤q.toNat) (h2:4294967296≤r.toNat):q.toNat=(U.toNat*4294967296+B.toNat)/V.toNat :=
 zR7 h.hv h.h1 h.l0 h.hu h0 hg h2
theorem Dig.rest {V y1 y0 U B q:BitVec 64} (h:Dig V y1 y0 U B) (hq:q.toNat=(U.toNat*4294967296+B.toNat)/V.toNat):(U*4294967296#64+B-q*V).toNat=(U.toNat*4294967296+B.toNat)%V.toNat:=by
 have h2:=Nat.div_add_mod (U.toNat*4294967296+B.toNat) V.toNat
 have h3:=Nat.mod_lt (U.toNat*4294967296+B.toNat) (show V.toNat > 0 by have:=h.hu;omega)
 have hV:=V.isLt
 rw [← hq,Nat.mul_comm] at h2
 rw [BitVec.toNat_sub,BitVec.toNat_add,BitVec.toNat_mul,BitVec.toNat_mul]
 rw [show (4294967296#64).toNat=4294967296 from rfl]
 generalize q.toNat*V.toNat=p at *
 omega
theorem Dig.next {V y1 y0 U B q R B':BitVec 64} (h:Dig V y1 y0 U B) (hq:q.toNat=(U.toNat*4294967296+B.toNat)/V.toNat) (hR:R=U*4294967296#64+B-q*V) (hb:B'.toNat<4294967296):Dig V y1 y0 R B' :=
 ⟨h.hv,h.h1,h.l1,h.l0,by rw [hR,h.rest hq];exact Nat.mod_lt _ (by have:=h.hu;omega),hb⟩
theorem zc4 {Y K:BitVec 64} (hK:K=BitVec.ofInt 64 (64-((zAu Y.toNat:Nat):Int))):K.toNat+zAu Y.toNat=64:=by
 have:=zDf (k:=64) Y.isLt
 rw [hK,BitVec.toNat_ofInt]
 omega
theorem zYQ {X Z Y K V U W : BitVec 64} (h : X.toNat < Y.toNat) (hK : K.toNat + zAu Y.toNat = 64) (hV : V = Y <<< K.toNat) (hU : U = X <<< K.toNat ||| Z >>> (64#64 - K).toNat) (hW : W = Z <<< K.toNat) :
   V.toNat=Y.toNat*2 ^ K.toNat∧U.toNat*18446744073709551616+W.toNat=(X.toNat*18446744073709551616+Z.toNat)*2 ^ K.toNat∧Dig V (V>>>32) (V&&&4294967295#64) U (W>>>32):=by
 have hb1:0<zAu Y.toNat:=zGs (k:=0) (by omega)
 generalize hk:K.toNat=k at *
 have e0:(64#64-K).toNat=64-k:=by
   rw [BitVec.toNat_sub,show (64#64).toNat=64 from rfl,hk];omega
 have hY:=Y.isLt
 have hZ:=Z.isLt
 have hp:2 ^ k*2 ^ (64-k)=18446744073709551616:=by rw [← Nat.pow_add,show k+(64-k)=64 by omega]
 have hpk:0<2 ^ k:=Nat.two_pow_pos k
 have hb2:Y.toNat<2 ^ (64-k):=by
   rcases Nat.lt_or_ge Y.toNat (2 ^ (64-k)) with h5 | h5
   · exact h5
   · have:=zGs h5;omega
 have hb3:2 ^ (63-k)≤Y.toNat:=by
   rcases Nat.lt_or_ge Y.toNat (2 ^ (63-k)) with h5 | h5
   · have:=zDf h5;omega
   · exact h5
 have hp3:2 ^ (63-k)*2 ^ k=9223372036854775808:=by rw [← Nat.pow_add,show (63-k)+k=63 by omega]
 have hv1:Y.toNat*2 ^ k<18446744073709551616:=by
   rw [← hp,Nat.mul_comm (2 ^ k)];exact Nat.mul_lt_mul_of_pos_right hb2 hpk
 have hv2:9223372036854775808≤Y.toNat*2 ^ k:=by rw [← hp3];exact Nat.mul_le_mul_right _ hb3
 have hx1:X.toNat*2 ^ k+2 ^ k≤Y.toNat*2 ^ k:=by
   rw [← Nat.succ_mul];exact Nat.mul_le_mul_right _ h
 have eV:V.toNat=Y.toNat*2 ^ k:=by
   rw [hV,BitVec.toNat_shiftLeft,Nat.shiftLeft_eq];exact Nat.mod_eq_of_lt hv1
 have hz:Z.toNat/2 ^ (64-k)<2 ^ k:=by
   apply Nat.div_lt_of_lt_mul
   rw [Nat.mul_comm,hp];exact hZ
 have eU:U.toNat=X.toNat*2 ^ k+Z.toNat/2 ^ (64-k):=by
   rw [hU,e0,BitVec.toNat_or,BitVec.toNat_shiftLeft,BitVec.toNat_ushiftRight,Nat.shiftRight_eq_div_pow]
   rw [show X.toNat<<<k%2 ^ 64=X.toNat<<<k by rw [Nat.shiftLeft_eq];exact Nat.mod_eq_of_lt (by omega)]
   rw [← Nat.shiftLeft_add_eq_or_of_lt hz,Nat.shiftLeft_eq]
 have eW:W.toNat=Z.toNat%2 ^ (64-k)*2 ^ k:=by
   rw [hW,BitVec.toNat_shiftLeft,Nat.shiftLeft_eq,show (2:Nat) ^ 64=2 ^ (64-k)*2 ^ k by rw [Nat.mul_comm];exact hp.symm,Nat.mul_mod_mul_right]
 refine ⟨eV,?_,⟨?_,?_,?_,?_,?_,?_⟩⟩
 · have h9:=Nat.div_add_mod Z.toNat (2 ^ (64-k))
   rw [eU,eW,Nat.add_mul (X.toNat*18446744073709551616)]
   conv=>rhs;rw [← h9]
   rw [Nat.add_mul,Nat.add_mul,Nat.mul_right_comm X.toNat,Nat.add_assoc]
   congr 2
   rw [← hp,Nat.mul_comm (2 ^ (64-k)),Nat.mul_right_comm,Nat.mul_assoc]
 · rw [zPr,zQU];omega
 · rw [zPr,eV];omega
 · rw [zPr];have:=V.isLt;omega
 · rw [zQU];omega
 · rw [eU,eV];omega
 · rw [zPr];have:=W.isLt;omega
theorem zZf {X Z Y K V U W y1 y0 q1 R q0 : BitVec 64} (h : X.toNat < Y.toNat) (eV : V.toNat = Y.toNat * 2 ^ K.toNat) (eU : U.toNat * 18446744073709551616 + W.toNat = (X.toNat * 18446744073709551616 + Z.toNat) * 2 ^ K.toNat)
   (hd:Dig V y1 y0 U (W>>>32)) (hq1:q1.toNat=(U.toNat*4294967296+(W>>>32).toNat)/V.toNat) (hR:R=U*4294967296#64+W>>>32-q1*V) (hq0:q0.toNat=(R.toNat*4294967296+(W&&&4294967295#64).toNat)/V.toNat) :
   q1*4294967296#64+q0=dQ X Z Y∧(R*4294967296#64+(W&&&4294967295#64)-q0*V)>>>K.toNat=dR X Z Y:=by
 have hd2:Dig V y1 y0 R (W&&&4294967295#64):=hd.next hq1 hR (by rw [zQU];omega)
 have eR:R.toNat=(U.toNat*4294967296+(W>>>32).toNat)%V.toNat:=by rw [hR];exact hd.rest hq1
 have h0:0<V.toNat:=by have:=hd.hu;omega
 have ht:=zai (u:=U.toNat) (un1:=(W>>>32).toNat) (un0:=(W&&&4294967295#64).toNat) h0
 have ew:U.toNat*18446744073709551616+(W>>>32).toNat*4294967296+(W&&&4294967295#64).toNat=(X.toNat*18446744073709551616+Z.toNat)*2 ^ K.toNat:=by
   rw [← eU,zPr,zQU]
   have:W.toNat/4294967296*4294967296+W.toNat%4294967296=W.toNat:=Nat.div_add_mod' _ _
   rw [Nat.add_assoc,this]
 have hs:=zSe (n:=X.toNat*18446744073709551616+Z.toNat) (y:=Y.toNat) (k:=2 ^ K.toNat) (Nat.two_pow_pos _)
 rw [← eR,← hq1,← hq0,ew,eV,hs.1] at ht
 constructor
 · apply BitVec.eq_of_toNat_eq
   have hl1:q1.toNat<4294967296:=by rw [hq1];exact zXL hd.hu hd.hb
   have hl0:q0.toNat<4294967296:=by rw [hq0];exact zXL hd2.hu hd2.hb
   rw [zTB h,ht.1,BitVec.toNat_add,BitVec.toNat_mul,show (4294967296#64).toNat=4294967296 from rfl]
   omega
 · apply BitVec.eq_of_toNat_eq
   rw [BitVec.toNat_ushiftRight,Nat.shiftRight_eq_div_pow,hd2.rest hq0,zRl h,← hs.2,ht.2,eV]
theorem zWx {X Z Y:BitVec 64} (hx:X.toNat=0) (h:X.toNat<Y.toNat):(Z/Y,Z%Y)=(dQ X Z Y,dR X Z Y):=by
 congr 1
 ·apply BitVec.eq_of_toNat_eq
  rw [zTB h,hx,Nat.zero_mul,Nat.zero_add];exact BitVec.toNat_udiv
 ·apply BitVec.eq_of_toNat_eq
  rw [zRl h,hx,Nat.zero_mul,Nat.zero_add];exact BitVec.toNat_umod
theorem zUm {Y:BitVec 64} (h:0<Y.toNat):Y≠0:=λe=>by rw [e] at h;exact absurd h (by decide)
def pQ (X:BitVec 64) (num den:Int):BitVec 64:=BitVec.ofNat 64 (X.toNat*num.toNat/den.toNat)
def pM (X:BitVec 64) (num den:Int):Bool:=decide (X.toNat*num.toNat%den.toNat≠0)
theorem zR4 {num den:Int} (h1:¬ den<1) (h2:¬ 4611686018427387904<den) (h3:num=min (max num 0) den):zBq num den=0:=by unfold zBq;rw [if_neg];omega
theorem zLf {num den:Int} (h:den<1∨4611686018427387904<den∨num≠min (max num 0) den):zBq num den=3:=by unfold zBq;rw [if_pos];rcases h with h | h | h<;>omega
theorem zF9 {num den:Int} (h:zBq num den=0):1≤den∧den≤4611686018427387904∧0≤num∧num≤den:=by
 unfold zBq at h
 split at h
 · cases h
 · omega
theorem zC5 {x:Int} (h1:0≤x) (h2:x≤9223372036854775807):(BitVec.ofInt 64 x).toNat=x.toNat:=by rw [BitVec.toNat_ofInt];omega
theorem zQ9 {X:BitVec 64} {num den:Int} (h1:1≤den) (h2:den≤4611686018427387904) (h3:0≤num) (h4:num≤den):(mHi X (BitVec.ofInt 64 num)).toNat<(BitVec.ofInt 64 den).toNat:=by
 rw [zEh,zC5 h3 (by omega),zC5 (by omega) (by omega)]
 apply Nat.div_lt_of_lt_mul
 have hX:=X.isLt
 have h5:X.toNat*num.toNat≤X.toNat*den.toNat:=Nat.mul_le_mul_left _ (by omega)
 have h6:X.toNat*den.toNat<18446744073709551616*den.toNat:=Nat.mul_lt_mul_of_pos_right hX (by omega)
 omega
theorem zZO {X : BitVec 64} {num den : Int} (h1 : 1 ≤ den) (h2 : den ≤ 4611686018427387904) (h3 : 0 ≤ num) (h4 : num ≤ den) :
   dQ (mHi X (BitVec.ofInt 64 num)) (X*BitVec.ofInt 64 num) (BitVec.ofInt 64 den)=pQ X num den∧(!((((dR (mHi X (BitVec.ofInt 64 num)) (X*BitVec.ofInt 64 num) (BitVec.ofInt 64 den)).toNat:Nat):Int)==0))=pM X num den:=by
 have e:(mHi X (BitVec.ofInt 64 num)).toNat*18446744073709551616+(X*BitVec.ofInt 64 num).toNat=X.toNat*num.toNat:=by
   rw [zEh,zLF,zC5 h3 (by omega)]
   exact Nat.div_add_mod' _ _
 constructor
 · unfold dQ pQ
   rw [e,zC5 (by omega) (by omega)]
 · rw [zRl (zQ9 h1 h2 h3 h4),e,zC5 (by omega) (by omega)]
   unfold pM
   rw [Bool.eq_iff_iff,Bool.not_eq_true',beq_eq_false_iff_ne,decide_eq_true_eq]
   omega
theorem zUG {X:BitVec 64} {num den:Int} (h1:1≤den) (h3:0≤num) (h4:num≤den):(pQ X num den).toNat=X.toNat*num.toNat/den.toNat∧X.toNat*num.toNat/den.toNat≤X.toNat:=by
 have h5:X.toNat*num.toNat/den.toNat≤X.toNat:=by
  apply Nat.div_le_of_le_mul
  rw [Nat.mul_comm]
  exact Nat.mul_le_mul_right _ (by omega)
 refine ⟨?_,h5⟩
 unfold pQ
 rw [BitVec.toNat_ofNat]
 exact Nat.mod_eq_of_lt (Nat.lt_of_le_of_lt h5 X.isLt)
theorem zWc {x y:Int} {X:BitVec 64} (h1 : -9223372036854775808≤x+X.toNat∧x+X.toNat≤9223372036854775807):IntKind.i64.wrap (x+X.toInt)=x+X.toNat:=by
 rw [IntKind.wrap_i64,BitVec.toInt_eq_toNat_cond]
 have:=X.isLt
 split<;>omega
theorem zOj {x:Int} {X:BitVec 64} (h1 : -9223372036854775808≤x-X.toNat∧x-X.toNat≤9223372036854775807):IntKind.i64.wrap (x-X.toInt)=x-X.toNat:=by
 rw [IntKind.wrap_i64,BitVec.toInt_eq_toNat_cond]
 have:=X.isLt
 split<;>omega
theorem gap {x y:Int} (hx : -9223372036854775808≤x∧x≤9223372036854775807) (hy : -9223372036854775808≤y∧y≤9223372036854775807) (h:x≤y):(BitVec.ofInt 64 (IntKind.i64.wrap (y-x))).toNat=(y-x).toNat:=by
 rw [IntKind.wrap_i64,BitVec.toNat_ofInt]
 omega
theorem zYq {x y num den : Int} (hx : -9223372036854775808 ≤ x ∧ x ≤ 9223372036854775807) (hy : -9223372036854775808 ≤ y ∧ y ≤ 9223372036854775807) (h : x ≤ y) (hc : zBq num den = 0) :
   IntKind.i64.wrap (x+(pQ (BitVec.ofInt 64 (IntKind.i64.wrap (y-x))) num den).toInt)=zDF x y num den:=by
 obtain ⟨h1,h2,h3,h4⟩:=zF9 hc
 obtain ⟨e,hl⟩:=zUG (X:=BitVec.ofInt 64 (IntKind.i64.wrap (y-x))) h1 h3 h4
 have hg:=gap hx hy h
 rw [hg] at e hl
 rw [zWc (y:=y) (by rw [e];omega),e]
 unfold zDF
 have e3:(y-x)*num/den=(((y-x).toNat*num.toNat/den.toNat:Nat):Int):=by
   rw [Int.natCast_ediv,Int.natCast_mul,Int.toNat_of_nonneg h3,Int.toNat_of_nonneg (show 0≤y-x by omega),Int.toNat_of_nonneg (show 0≤den by omega)]
 rw [e3]
theorem zYn (P d:Nat) (h:0<d) : -(P:Int)/(d:Int) = -((P/d+(bif decide (P%d≠0) then 1 else 0):Nat):Int):=by
 have h2:=Nat.div_add_mod P d
 have h3:=Nat.mod_lt P h
 have e:(P:Int)=(d:Int)*((P/d:Nat):Int)+((P%d:Nat):Int):=by
  conv=>lhs;rw [← h2]
  rw [Int.natCast_add,Int.natCast_mul]
 by_cases h0:P%d=0
 ·rw [show decide (P%d≠0)=false from decide_eq_false (λe=>e h0),cond_false]
  refine ((Int.ediv_emod_unique (r:=0) (by omega)).2 ⟨?_,by omega,by omega⟩).1
  rw [h0] at e
  rw [Nat.add_zero,Int.mul_neg];omega
 ·rw [show decide (P%d≠0)=true from decide_eq_true h0,cond_true]
  refine ((Int.ediv_emod_unique (r:=(d:Int)-((P%d:Nat):Int)) (by omega)).2 ⟨?_,by omega,by omega⟩).1
  rw [Int.natCast_add,Int.mul_neg,Int.mul_add];omega
theorem zLn {x y num den : Int} (hx : -9223372036854775808 ≤ x ∧ x ≤ 9223372036854775807) (hy : -9223372036854775808 ≤ y ∧ y ≤ 9223372036854775807) (h : ¬ x ≤ y) (hc : zBq num den = 0) :
   (pM (BitVec.ofInt 64 (IntKind.i64.wrap (x-y))) num den=true→IntKind.i64.wrap (x-(pQ (BitVec.ofInt 64 (IntKind.i64.wrap (x-y))) num den+1#64).toInt)=zDF x y num den) ∧
   (pM (BitVec.ofInt 64 (IntKind.i64.wrap (x-y))) num den=false→IntKind.i64.wrap (x-(pQ (BitVec.ofInt 64 (IntKind.i64.wrap (x-y))) num den).toInt)=zDF x y num den):=by
 obtain ⟨h1,h2,h3,h4⟩:=zF9 hc
 obtain ⟨e,hl⟩:=zUG (X:=BitVec.ofInt 64 (IntKind.i64.wrap (x-y))) h1 h3 h4
 have hg:=gap hy hx (by omega)
 have e3:(y-x)*num/den = -(((x-y).toNat*num.toNat/den.toNat+(bif decide ((x-y).toNat*num.toNat%den.toNat≠0) then 1 else 0):Nat):Int):=by
   rw [← zYn _ _ (by omega),Int.natCast_mul,Int.toNat_of_nonneg h3,Int.toNat_of_nonneg (show 0≤x-y by omega),Int.toNat_of_nonneg (show 0≤den by omega),← Int.neg_mul,Int.neg_sub]
 have h6:(x-y).toNat*num.toNat/den.toNat<(x-y).toNat∨(x-y).toNat*num.toNat%den.toNat=0:=by
   rcases Nat.lt_or_ge ((x-y).toNat*num.toNat/den.toNat) (x-y).toNat with h7 | h7
   · exact .inl h7
   · refine .inr ?_
     have h8:=Nat.div_add_mod ((x-y).toNat*num.toNat) den.toNat
     have h9:(x-y).toNat*num.toNat≤(x-y).toNat*den.toNat:=Nat.mul_le_mul_left _ (by omega)
     have h10:den.toNat*(x-y).toNat≤den.toNat*((x-y).toNat*num.toNat/den.toNat):=Nat.mul_le_mul_left _ h7
     rw [Nat.mul_comm (x-y).toNat den.toNat] at h9
     omega
 unfold pM zDF
 rw [e3,hg]
 constructor
 · intro hm
   have hm2:=of_decide_eq_true hm
   rw [hm,cond_true]
   rw [hg] at e hl
   have e4:(pQ (BitVec.ofInt 64 (IntKind.i64.wrap (x-y))) num den+1#64).toNat=(x-y).toNat*num.toNat/den.toNat+1:=by
     rw [BitVec.toNat_add,e,show (1#64).toNat=1 from rfl];omega
   rw [zOj (by rw [e4];omega),e4];omega
 · intro hm
   rw [hm,cond_false]
   rw [hg] at e hl
   rw [zOj (by rw [e];omega),e];omega
theorem zV1 {num den:Int} (hc:zBq num den=0):(pQ 65536#64 num den).toInt=zBx num den:=by
 obtain ⟨h1,h2,h3,h4⟩:=zF9 hc
 obtain ⟨e,hl⟩:=zUG (X:=65536#64) h1 h3 h4
 rw [show (65536#64).toNat=65536 from rfl] at e hl
 rw [BitVec.toInt_eq_toNat_cond,e,if_pos (by omega)]
 unfold zBx
 rw [Int.natCast_ediv,Int.natCast_mul,Int.toNat_of_nonneg h3,Int.toNat_of_nonneg (show 0≤den by omega)]
 rfl
theorem zIs {n:Nat} (h:((n:Nat):Int)≠0):(n==0)=false:=by simpa using h
theorem zC9 {n:Nat} (h:((n:Nat):Int)=0):n=0:=by omega
theorem zGJ {num den x y:Int} (hc:zBq num den=0) (h:x=y):Value.tuple #[.int .i64 x,.int .i64 0]=Value.tuple #[.int .i64 (bif zBq num den==0 then y else 0),.int .i64 ((zBq num den:Nat):Int)]:=by rw [hc,h];rfl
theorem zR5 {n:Nat} (h:(n==0)=false) (y:Int):Value.tuple #[.int .i64 0,.int .i64 ((n:Nat):Int)]=Value.tuple #[.int .i64 (bif n==0 then y else 0),.int .i64 ((n:Nat):Int)]:=by rw [h];rfl
def bAt (p:Option Int) (x:Int):Nat:=if x < -2305843009213693952∨2305843009213693952<x then 3 else match p with | some q=>if x≤q then 10 else 0 | none=>0
def zDv : Option Int→List Int→Nat
 | _,[]=>0
 | p,x::l=>if bAt p x≠0 then bAt p x else zDv (some x) l
def tms (L:List RI):List Int:=L.map RI.tm
def zIV (L:List RI) (j:Nat):Option Int:=if j=0 then none else some (L.getD (j-1) default).tm
theorem zOV {L:List RI} {j:Nat} (h:j<L.length):tms (L.drop j)=(L.getD j default).tm::tms (L.drop (j+1)):=by
 rw [List.drop_eq_getElem_cons h,tms,List.map_cons,List.getD_eq_getElem?_getD,List.getElem?_eq_getElem h];rfl
theorem zMA {L:List RI} {j:Nat} {e:Nat} (h:j<L.length) (he:zDv (zIV L j) (tms (L.drop j))=e) (h0:bAt (zIV L j) (L.getD j default).tm=0):zDv (zIV L (j+1)) (tms (L.drop (j+1)))=e:=by
 rw [← he,zOV h,zDv,if_neg (λk=>k h0)];rfl
theorem zLJ {L:List RI} {j:Nat} {e n:Nat} (h:j<L.length) (he:zDv (zIV L j) (tms (L.drop j))=e) (hn:bAt (zIV L j) (L.getD j default).tm=n) (h0:n≠0):n=e:=by
 rw [← he,zOV h,zDv,if_pos (by rw [hn];exact h0),hn]
theorem zU3 {L:List RI} {j:Nat} {e:Nat} (h:L.length≤j) (he:zDv (zIV L j) (tms (L.drop j))=e):0=e:=by
 rw [← he,List.drop_eq_nil_of_le h];rfl
theorem zbn {p:Option Int} {x:Int} (h:x < -2305843009213693952∨2305843009213693952<x):bAt p x=3:=if_pos h
theorem zbQ {L:List RI} {j:Nat} {x:Int} (h:¬ x < -2305843009213693952) (h2:¬ 2305843009213693952<x) (hj:0<j) (hx:x≤(L.getD (j-1) default).tm):bAt (zIV L j) x=10:=by
 unfold bAt zIV
 rw [if_neg (by omega),if_neg (by omega)]
 exact if_pos hx
theorem zcC {L:List RI} {j:Nat} {x:Int} (h:¬ x < -2305843009213693952) (h2:¬ 2305843009213693952<x) (hx:j=0∨¬ x≤(L.getD (j-1) default).tm):bAt (zIV L j) x=0:=by
 unfold bAt zIV
 rw [if_neg (by omega)]
 by_cases hj:j=0
 ·rw [if_pos hj]
 ·rw [if_neg hj]
  exact if_neg (by omega)
theorem zWR {x y:Int} (h:zDv none [x,y]=0) : -2305843009213693952≤x∧x≤2305843009213693952 ∧ -2305843009213693952≤y∧y≤2305843009213693952∧x<y:=by
 unfold zDv at h
 split at h
 ·next h2=>exact absurd h h2
 ·next h2 =>
  have h3:bAt none x=0:=Decidable.not_not.1 h2
  have h4:bAt (some x) y=0:=by
   unfold zDv at h
   split at h
   ·next h5=>exact absurd h h5
   ·next h5=>exact Decidable.not_not.1 h5
  unfold bAt at h3 h4
  split at h3
  ·cases h3
  ·split at h4
   ·cases h4
   ·by_cases h5:y≤x
    ·simp only [if_pos h5] at h4;cases h4
    ·omega
def zIW (x:RI) (at_:Int):Int×Nat:=if zDv none [x.tm]≠0 then (0,zDv none [x.tm]) else if at_<x.tm then (0,3) else (zBZ at_ x.tm,0)
def zAy (x y:RI) (at_:Int):Int×Int×Nat:=if zDv none [x.tm,y.tm]≠0 then (0,0,zDv none [x.tm,y.tm]) else if at_<x.tm∨y.tm<at_ then (0,0,3) else (at_-x.tm,y.tm-x.tm,0)
theorem zbS {x:RI} (h:zD3 x.v x.l.length):∀ z∈[x],zD3 z.v z.l.length:=by
 intro z hz;rw [List.mem_singleton] at hz;rw [hz];exact h
theorem zcN {x y:RI} (h:zD3 x.v x.l.length) (h2:zD3 y.v y.l.length):∀ z∈[x,y],zD3 z.v z.l.length:=by
 intro z hz;rw [List.mem_cons,List.mem_singleton] at hz
 rcases hz with rfl | rfl
 · exact h
 · exact h2
theorem zby {x:RI} {at_:Int} (h:((zDv none [x.tm]:Nat):Int)≠0):zIW x at_=(0,zDv none [x.tm]):=if_pos (λe=>h (by rw [e];rfl))
theorem zbR {x:RI} {at_:Int} (h:zDv none [x.tm]=0) (h2:at_<x.tm):zIW x at_=(0,3):=by unfold zIW;rw [if_neg (λk=>k h),if_pos h2]
theorem zb3 {x:RI} {at_:Int} (h:zDv none [x.tm]=0) (h2:¬ at_<x.tm):zIW x at_=(zBZ at_ x.tm,0):=by unfold zIW;rw [if_neg (λk=>k h),if_neg h2]
theorem zYY {x y:RI} {at_:Int} (h:((zDv none [x.tm,y.tm]:Nat):Int)≠0):zAy x y at_=(0,0,zDv none [x.tm,y.tm]):=if_pos (λe=>h (by rw [e];rfl))
theorem zRg {x y:RI} {at_:Int} (h:zDv none [x.tm,y.tm]=0) (h2:at_<x.tm∨y.tm<at_):zAy x y at_=(0,0,3):=by unfold zAy;rw [if_neg (λk=>k h),if_pos h2]
theorem zYD {x y:RI} {at_:Int} (h:zDv none [x.tm,y.tm]=0) (h2:¬ at_<x.tm) (h3:¬ y.tm<at_):zAy x y at_=(at_-x.tm,y.tm-x.tm,0):=by unfold zAy;rw [if_neg (λk=>k h),if_neg (by omega)]
def zH7 (n d:Int):Nat:=if min n d<1∨1048576<max n d then 3 else 0
theorem zXX {n d:Int} (h:min n d<1∨1048576<max n d):zH7 n d=3:=if_pos h
theorem zca {n d:Int} (h:¬ min n d<1) (h2:¬ 1048576<max n d):zH7 n d=0:=if_neg (by omega)
theorem zLU {n d:Int} (h:zH7 n d=0):1≤n∧n≤1048576∧1≤d∧d≤1048576:=by
 unfold zH7 at h
 split at h
 · cases h
 · omega
def zEZ (x n d:Int):Int:=min (max 0 x*n/d+1) 9223372036854775807
def zb2 (X:BitVec 64):BitVec 64:=if X.toNat≤9223372036854775806 then X else 9223372036854775806#64
theorem zNy (X:BitVec 64):min (((X.toNat:Nat):Int)) 9223372036854775806=(((zb2 X).toNat:Nat):Int):=by
 unfold zb2
 split
 · omega
 · rw [show (9223372036854775806#64).toNat=9223372036854775806 from rfl];omega
theorem zO2 (X:BitVec 64):(zb2 X).toInt=min ((X.toNat:Nat):Int) 9223372036854775806:=by
 rw [zNy,BitVec.toInt_eq_toNat_cond,if_pos]
 have:=zNy X
 omega
theorem zMl {x n d:Int} (hx:x≤9223372036854775807) (hc:zH7 n d=0):((max 0 x).toNat*n.toNat:Nat)=(max 0 x*n).toNat∧(BitVec.ofInt 64 (max 0 x)).toNat=(max 0 x).toNat∧(BitVec.ofInt 64 n).toNat=n.toNat∧(BitVec.ofInt 64 d).toNat=d.toNat:=by
 obtain ⟨h1,h2,h3,h4⟩:=zLU hc
 refine ⟨?_,zC5 (by omega) (by omega),zC5 (by omega) (by omega),zC5 (by omega) (by omega)⟩
 rw [Int.toNat_mul (by omega) (by omega)]
theorem zLg {x n d:Int} (hc:zH7 n d=0):max 0 x*n/d=(((max 0 x).toNat*n.toNat/d.toNat:Nat):Int):=by
 obtain ⟨h1,h2,h3,h4⟩:=zLU hc
 rw [Int.natCast_ediv,Int.natCast_mul,Int.toNat_of_nonneg (show 0≤max 0 x by omega),Int.toNat_of_nonneg (show 0≤n by omega),Int.toNat_of_nonneg (show 0≤d by omega)]
theorem zWX {x n d:Int} (hx:x≤9223372036854775807) (hc:zH7 n d=0) (h:(((BitVec.ofInt 64 d).toNat:Nat):Int)≤(((mHi (BitVec.ofInt 64 (max 0 x)) (BitVec.ofInt 64 n)).toNat:Nat):Int)):9223372036854775807=zEZ x n d:=by
 obtain ⟨e0,e1,e2,e3⟩:=zMl hx hc
 obtain ⟨h1,h2,h3,h4⟩:=zLU hc
 rw [zEh,e1,e2,e3] at h
 unfold zEZ
 rw [zLg hc]
 have h5:d.toNat*18446744073709551616≤(max 0 x).toNat*n.toNat:=by
  generalize (max 0 x).toNat*n.toNat=P at *
  omega
 have h6:18446744073709551616≤(max 0 x).toNat*n.toNat/d.toNat:=by
  rw [Nat.le_div_iff_mul_le (by omega),Nat.mul_comm];exact h5
 clear h h5
 generalize (max 0 x).toNat*n.toNat/d.toNat=Q at *
 clear e0 e1 e2 e3
 omega
theorem zYS {x n d : Int} (hx : x ≤ 9223372036854775807) (hc : zH7 n d = 0) (h : ¬ (((BitVec.ofInt 64 d).toNat : Nat) : Int) ≤ (((mHi (BitVec.ofInt 64 (max 0 x)) (BitVec.ofInt 64 n)).toNat : Nat) : Int)) :
   (zb2 (dQ (mHi (BitVec.ofInt 64 (max 0 x)) (BitVec.ofInt 64 n)) (BitVec.ofInt 64 (max 0 x)*BitVec.ofInt 64 n) (BitVec.ofInt 64 d))).toInt+1=zEZ x n d:=by
 obtain ⟨e0,e1,e2,e3⟩:=zMl hx hc
 have e:(mHi (BitVec.ofInt 64 (max 0 x)) (BitVec.ofInt 64 n)).toNat*18446744073709551616+(BitVec.ofInt 64 (max 0 x)*BitVec.ofInt 64 n).toNat=(max 0 x).toNat*n.toNat:=by
   rw [zEh,zLF,e1,e2]
   exact Nat.div_add_mod' _ _
 rw [zO2,zTB (by omega),e,e3]
 unfold zEZ
 rw [zLg hc]
 generalize (max 0 x).toNat*n.toNat/d.toNat=Q
 clear e h e0 e1 e2 e3
 omega
def sP (b x y:Int):Int:=if b=0 then x else y
def sS1 (n d s t now want:Int):Int:=max s (min want (zDD s (zEZ (zBZ (max now t) t) n d)))
def sS (n d s t b now want:Int):Int:=sS1 n d (sP b want s) (sP b now t) now want
def sT (t b now:Int):Int:=max (sP b now t) now
theorem zTh {x n d:Int} (hc:zH7 n d=0):0≤zEZ x n d∧zEZ x n d≤9223372036854775807:=by
 unfold zEZ
 rw [zLg hc]
 have h:(0:Int)≤(((max 0 x).toNat*n.toNat/d.toNat:Nat):Int):=Int.natCast_nonneg _
 generalize (((max 0 x).toNat*n.toNat/d.toNat:Nat):Int)=Q at *
 omega
theorem zOa {n:Nat} {x y:Int} (hc:n=0) (h:x=y):Value.tuple #[.int .i64 x,.int .i64 0]=Value.tuple #[.int .i64 (bif n==0 then y else 0),.int .i64 ((n:Nat):Int)]:=by rw [hc,h];rfl
theorem zZb {n:Nat} (h:(n==0)=false) (y:Int):Value.tuple #[.int .i64 0,.int .i64 ((n:Nat):Int)]=Value.tuple #[.int .i64 (bif n==0 then y else 0),.int .i64 ((n:Nat):Int)]:=by rw [h];rfl
theorem zY1 {x n d:Int} (hc:zH7 n d=0) : -9223372036854775808≤zEZ x n d∧zEZ x n d≤9223372036854775807:=by
 have:=zTh (x:=x) hc
 omega
structure zAG where
 ring:Int
 window:Int
 base:Int
 gain:Int
 least:Int
 most:Int
 slack:Int
 num:Int
 den:Int
 extra:Int
 curve:Bool
def zLd (c:zAG):Prop:=(c.base<0∨2305843009213693952<c.base)∨(c.least<0∨2305843009213693952<c.least)∨(c.most<0∨2305843009213693952<c.most)∨(c.slack<0∨2305843009213693952<c.slack)∨(c.gain<0∨68719476736<c.gain)
instance (c:zAG):Decidable (zLd c):=by unfold zLd;infer_instance
def zH6 (c:zAG):Nat:=if zLd c then 3 else if c.most<c.least then 10 else 0
theorem zF5 {c:zAG} (h:zLd c):3=zH6 c:=(if_pos h).symm
theorem zYF {c:zAG} (h:¬ zLd c) (h2:c.most<c.least):10=zH6 c:=by unfold zH6;rw [if_neg h,if_pos h2]
theorem zbL {c:zAG} (h:¬ zLd c) (h2:¬ c.most<c.least):0=zH6 c:=by unfold zH6;rw [if_neg h,if_neg h2]
theorem zIj {c:zAG} (h:zH6 c=0):0≤c.base∧c.base≤2305843009213693952∧0≤c.least∧c.least≤c.most∧c.most≤2305843009213693952∧0≤c.slack∧c.slack≤2305843009213693952∧0≤c.gain∧c.gain≤68719476736:=by
 unfold zH6 at h
 split at h
 ·cases h
 ·next h1 =>
  split at h
  ·cases h
  ·unfold zLd at h1;omega
def zJi (c:zAG) (j:Int):Int:=if zH6 c≠0 then 0 else zHk (zDD c.base (zA0 c.gain (max 0 j))) c.least c.most
theorem zbN {c:zAG} {j:Int} (h:((zH6 c:Nat):Int)≠0):0=zJi c j:=by unfold zJi;rw [if_pos (by omega)]
theorem zcp {c:zAG} {j:Int} (h:((zH6 c:Nat):Int)=0):zHk (zDD c.base (zA0 c.gain (max 0 j))) c.least c.most=zJi c j:=by unfold zJi;rw [if_neg (by omega)]
theorem zKk {c:zAG} {j:Int} (h:zH6 c=0):c.least≤zJi c j∧zJi c j≤c.most:=by
 have h2:=zIj h
 unfold zJi zHk
 rw [if_neg (by omega)]
 omega
def zUQ (c:zAG) (now j:Int):Int:=if c.slack<max (zJi c j-now) (now-zJi c j) then zJi c j else now
def dCh (c:zAG) (now j ch:Int):Int:=if c.slack<max (zJi c j-now) (now-zJi c j) then IntKind.i64.wrap (ch+1) else ch
theorem zWV {c:zAG} {now j:Int} (h:zH6 c=0) (hn:c.least≤now∧now≤c.most):c.least≤zUQ c now j∧zUQ c now j≤c.most:=by
 unfold zUQ
 split
 · exact zKk h
 · exact hn
def zEs (x y:Int):Int:=max 0 x+(max 0 y-max 0 x)/16
theorem zSF {x y:Int} (hx:x≤9223372036854775807) (hy:y≤9223372036854775807):0≤zEs x y∧zEs x y≤9223372036854775807:=by unfold zEs;omega
theorem zVv (x:Int):x.fdiv (2 ^ (min 4 64))=x/16:=by
 rw [Int.fdiv_eq_ediv_of_nonneg _ (by decide)];rfl
def zME (c:zAG):Prop:=c.ring<1∨64<c.ring∨c.window<1∨64<c.window
instance (c:zAG):Decidable (zME c):=by unfold zME;infer_instance
def zCm (c:zAG):Nat:=if zME c then 3 else if zH6 c≠0 then zH6 c else if zH7 c.num c.den≠0∨c.extra<0∨2305843009213693952<c.extra then 3 else 0
theorem zPK {c:zAG} (h:zME c):3=zCm c:=(if_pos h).symm
theorem zcS {c:zAG} (h:¬ zME c) (h2:((zH6 c:Nat):Int)≠0):zH6 c=zCm c:=by unfold zCm;rw [if_neg h,if_pos (by omega)]
theorem zTF {c:zAG} (h:¬ zME c) (h2:((zH6 c:Nat):Int)=0) (h3:((zH7 c.num c.den:Nat):Int)≠0∨c.extra<0∨2305843009213693952<c.extra):3=zCm c:=by unfold zCm;rw [if_neg h,if_neg (by omega),if_pos (by omega)]
theorem zb8 {c:zAG} (h:¬ zME c) (h2:((zH6 c:Nat):Int)=0) (h3:¬ (((zH7 c.num c.den:Nat):Int)≠0∨c.extra<0∨2305843009213693952<c.extra)):0=zCm c:=by unfold zCm;rw [if_neg h,if_neg (by omega),if_neg (by omega)]
theorem zGH {c:zAG} (h:zCm c=0):(1≤c.ring∧c.ring≤64∧1≤c.window∧c.window≤64)∧zH6 c=0∧zH7 c.num c.den=0∧0≤c.extra∧c.extra≤2305843009213693952:=by
 unfold zCm at h
 split at h
 ·cases h
 ·next h1 =>
  split at h
  ·next h2=>exact absurd h h2
  ·next h2 =>
   split at h
   ·cases h
   ·next h3=>unfold zME at h1;omega
def cW1 (t:Int):Int:=3*zA0 t t-2*zA0 (zA0 t t) t
def cW2 (t:Int):Int:=zA0 (zA0 t t) t-2*zA0 t t+t
def cW3 (t:Int):Int:=zA0 (zA0 t t) t-zA0 t t
theorem zIC {x y:Int} (hx:0≤x∧x≤65536) (hy:0≤y∧y≤65536):0≤zA0 x y∧zA0 x y≤65536:=by
 have h1:0≤x*y:=Int.mul_nonneg hx.1 hy.1
 have h2:x*y≤65536*65536:=Int.mul_le_mul hx.2 hy.2 hy.1 (by decide)
 unfold zA0 zD7
 generalize x*y=z at *
 omega
theorem zcg {t:Int} (h:0≤t∧t≤65536):(-131072≤cW1 t∧cW1 t≤196608)∧(-131072≤cW2 t∧cW2 t≤131072)∧(-65536≤cW3 t∧cW3 t≤65536):=by
 have h2:=zIC h h
 have h3:=zIC h2 h
 unfold cW1 cW2 cW3
 omega
def zav (x p1 q1 p2 q2 p3 q3:Int):Int:=zDD (zDD (zDD x (zA0 p1 q1)) (zA0 p2 q2)) (zA0 p3 q3)
def zdv (x u y v d t:Int):Int:=zHk (zav x (cW1 t) (zBZ y x) (cW2 t) (zA0 u d) (cW3 t) (zA0 v d)) x y
def cAt (x u y v n d:Int):Int:=if n=0 then x else if n=d then y else zdv x u y v d (zBx n d)
theorem zdL {x u y v n d:Int} (h:n=0):x=cAt x u y v n d:=(if_pos h).symm
theorem zdH {x u y v n d:Int} (h0:¬ n=0) (h:n=d):y=cAt x u y v n d:=by unfold cAt;rw [if_neg h0,if_pos h]
theorem zdD {x u y v n d:Int} (h0:¬ n=0) (h:¬ n=d):zdv x u y v d (zBx n d)=cAt x u y v n d:=by unfold cAt;rw [if_neg h0,if_neg h]
theorem zTm {n d:Int} (hc:zBq n d=0):0≤zBx n d∧zBx n d≤65536:=by
 obtain ⟨h1,h2,h3,h4⟩:=zF9 hc
 unfold zBx
 refine ⟨Int.ediv_nonneg (Int.mul_nonneg (by decide) h3) (by omega),?_⟩
 apply Int.ediv_le_of_le_mul (by omega)
 exact Int.mul_le_mul_of_nonneg_left h4 (by decide)
theorem zWY {n:Nat} {x y z:Int} (h:n=0):Value.tuple #[.agg #[.int .i64 x,.int .i64 y,.int .i64 z],.int .i64 0]=Value.tuple #[.agg #[.int .i64 (bif n==0 then x else 0),.int .i64 (bif n==0 then y else 0),.int .i64 (bif n==0 then z else 0)],.int .i64 ((n:Nat):Int)]:=by rw [h];rfl
theorem zS9 {n:Nat} (h:(n==0)=false) (x y z:Int):Value.tuple #[.agg #[.int .i64 0,.int .i64 0,.int .i64 0],.int .i64 ((n:Nat):Int)]=Value.tuple #[.agg #[.int .i64 (bif n==0 then x else 0),.int .i64 (bif n==0 then y else 0),.int .i64 (bif n==0 then z else 0)],.int .i64 ((n:Nat):Int)]:=by rw [h];rfl
open Go.RowKit
variable {P : Program} {ops : Array Oper} {Q : Exit → Act → World → Prop} {rest : List Oper} {n : Nat} {F : List (Nat × Value)} {w0 : World} {S : List Nat} {M : List HA} {a : Act} {w : World}
theorem zaK (X:BitVec 16):IntKind.i16.wrap (X.toNat:Int)=X.toInt:=by
 have:=X.isLt
 rw [BitVec.toInt_eq_toNat_cond]
 have e:IntKind.i16.wrap (X.toNat:Int)=if decide ((X.toNat:Int)%65536≥32768)=true then (X.toNat:Int)%65536-65536 else (X.toNat:Int)%65536:=rfl
 rw [e]
 by_cases h:2*X.toNat<65536
 · rw [if_pos h,if_neg (by simp only [decide_eq_true_eq];omega)];omega
 · rw [if_neg h,if_pos (by simp only [decide_eq_true_eq];omega)];omega
theorem zLH {x:Operand} {p:Int} {kd:IntKind} {t t2:TypeId} {ds:TypeDesc} {X:BitVec 16} {d:Nat} {ty:TypeId} {pos:String} {af:Array Edge} (hs:St n F w0 S M a w) (hx:evo F x=some (.int kd p)) (hp:p=(X.toNat:Int)) (hsrc:P.underlying t=some ds) (hdst:P.underlying t2=some (.int .i16)) (hd:Nat.blt d n=true) (k:∀ a w,St n ((d,.int .i16 X.toInt)::F) w0 S M a w→wpList P ops Q rest a w):wpList P ops Q (⟨some d,.convert t t2 x,ty,pos,af,none⟩::rest) a w :=
 zM hs (by simp only [execOp,hs.ev hx,convert,Sem.run_bind,run_underlying hsrc,run_underlying hdst,Conv.intToInt];simp [-BitVec.toNat_setWidth,-BitVec.toNat_ofInt];rw [hp];exact zaK X) hd k
theorem zZw (X:BitVec 16) : -9223372036854775808≤X.toInt∧X.toInt≤9223372036854775807:=by
 rw [BitVec.toInt_eq_toNat_cond]
 have:=X.isLt
 split<;>omega
def aTo (A B:BitVec 16):Int:=(B-A).toInt
def aBy (A:BitVec 16) (n:Int):BitVec 16:=A+BitVec.ofInt 16 n
theorem zYN (A B:BitVec 16) : -32768≤aTo A B∧aTo A B≤32767:=by
 unfold aTo
 rw [BitVec.toInt_eq_toNat_cond]
 have:=(B-A).isLt
 split<;>omega
def zaX (A B:BitVec 16) (num den:Int):BitVec 16:=aBy A (zDF 0 (aTo A B) num den)
theorem zWW {num den:Int} {x y:BitVec 16} (hc:zBq num den=0) (h:x=y):Value.tuple #[.int .u16 ((x.toNat:Nat):Int),.int .i64 0]=Value.tuple #[.int .u16 (((bif zBq num den==0 then y else 0#16:BitVec 16).toNat:Nat):Int),.int .i64 ((zBq num den:Nat):Int)]:=by rw [hc,h];rfl
theorem zaG {n:Nat} (h:(n==0)=false) (y:BitVec 16):Value.tuple #[.int .u16 0,.int .i64 ((n:Nat):Int)]=Value.tuple #[.int .u16 (((bif n==0 then y else 0#16:BitVec 16).toNat:Nat):Int),.int .i64 ((n:Nat):Int)]:=by rw [h];rfl
def zLK (L:List RI) (t:Int):Nat→Option (Nat×Int)
 | 0=>none
 | k+1=>if (L.getD k default).tm≤t then some (k,if k+1=L.length then -1 else ((k+1:Nat):Int)) else zLK L t k
def zBN (L:List RI) (t:Int):Int×Int×Nat :=
 if zDv none (tms L)≠0 then (0,0,zDv none (tms L)) else match zLK L t L.length with
 | some (i,nx)=>((i:Int),nx,0)
 | none=>(0,0,5)
theorem zaa {L:List RI} {t:Int} (h:((zDv none (tms L):Nat):Int)≠0):zBN L t=(0,0,zDv none (tms L)):=if_pos (by omega)
theorem zZD {L:List RI} {t:Int} {i:Nat} {nx:Int} (h:((zDv none (tms L):Nat):Int)=0) (hp:zLK L t L.length=some (i,nx)):zBN L t=((i:Int),nx,0):=by
 unfold zBN;rw [if_neg (by omega),hp]
theorem zYH {L:List RI} {t:Int} (h:((zDv none (tms L):Nat):Int)=0) (hp:zLK L t L.length=none):zBN L t=(0,0,5):=by
 unfold zBN;rw [if_neg (by omega),hp]
theorem zL0 {L:List RI} {t:Int}:∀ {k i:Nat} {nx:Int},zLK L t k=some (i,nx)→i<k∧(L.getD i default).tm≤t∧nx=(if i+1=L.length then -1 else ((i+1:Nat):Int))∧∀ j,i<j→j<k→¬ (L.getD j default).tm≤t
 | 0,_,_,h=>by cases h
 | k+1,i,nx,h=>by
  unfold zLK at h
  split at h
  ·next hle=>cases h;exact ⟨Nat.lt_succ_self _,hle,rfl,λj h1 h2=>absurd h2 (by omega)⟩
  ·next hle =>
   obtain ⟨h1,h2,h3,h4⟩:=zL0 h
   refine ⟨by omega,h2,h3,λj hj1 hj2=>?_⟩
   by_cases e:j=k
   ·rw [e];exact hle
   ·exact h4 j hj1 (by omega)
theorem zVc {L:List RI} {t:Int} (h:(zBN L t).2.2=0):zDv none (tms L)=0∧∃ i:Nat,i<L.length∧(zBN L t).1=(i:Int)∧(L.getD i default).tm≤t∧(zBN L t).2.1=(if i+1=L.length then -1 else ((i+1:Nat):Int))∧∀ j,i<j→j<L.length→t<(L.getD j default).tm:=by
 unfold zBN at h ⊢
 by_cases he:zDv none (tms L)≠0
 ·rw [if_pos he] at h;exact absurd h he
 ·rw [if_neg he] at h ⊢
  cases hp:zLK L t L.length with
  | none=>rw [hp] at h;cases h
  | some p =>
   obtain ⟨i,nx⟩:=p
   obtain ⟨h1,h2,h3,h4⟩:=zL0 hp
   exact ⟨Decidable.not_not.1 he,i,h1,rfl,h2,h3,λj hj1 hj2=>by have:=h4 j hj1 hj2;omega⟩
theorem zaL {L:List RI} {t:Int} {k:Nat} (h:¬ (L.getD k default).tm≤t):zLK L t (k+1)=zLK L t k:=by
 show (if _ then _ else _)=_;rw [if_neg h]
theorem zV4 {L:List RI} {t:Int} {k:Nat} (h:(L.getD k default).tm≤t):zLK L t (k+1)=some (k,if k+1=L.length then -1 else ((k+1:Nat):Int)):=by
 show (if _ then _ else _)=_;rw [if_pos h]
structure zGA where
 id:Int
 p0:Int
 p1:Int
 p2:Int
 a:BitVec 16
 m:Int
instance : Inhabited zGA:=⟨⟨0,0,0,0,0#16,0⟩⟩
def zA5 (p:zGA):List Value:=[.int .i64 p.id,.int .i64 p.p0,.int .i64 p.p1,.int .i64 p.p2,.int .u16 ((p.a.toNat:Nat):Int),.int .i64 p.m]
theorem zGl (p:zGA):(zA5 p).length=6:=rfl
def zEt : List RI→Nat
 | []=>0
 | x::l=>if zV x.t x.tm x.l≠0 then zV x.t x.tm x.l else zEt l
theorem zKO {L:List RI} {j:Nat} (h:j<L.length):zEt (L.drop j)=if zV (L.getD j default).t (L.getD j default).tm (L.getD j default).l≠0 then zV (L.getD j default).t (L.getD j default).tm (L.getD j default).l else zEt (L.drop (j+1)):=by
 rw [List.drop_eq_getElem_cons h,zEt,List.getD_eq_getElem?_getD,List.getElem?_eq_getElem h];rfl
theorem zQb {L:List RI} {j:Nat} {e:Nat} (h:j<L.length) (he:zEt (L.drop j)=e) (h0:((zV (L.getD j default).t (L.getD j default).tm (L.getD j default).l:Nat):Int)=0):zEt (L.drop (j+1))=e:=by
 rw [← he,zKO h,if_neg (by omega)]
theorem zSa {L:List RI} {j:Nat} {e:Nat} (h:j<L.length) (he:zEt (L.drop j)=e) (h0:((zV (L.getD j default).t (L.getD j default).tm (L.getD j default).l:Nat):Int)≠0):zV (L.getD j default).t (L.getD j default).tm (L.getD j default).l=e:=by
 rw [← he,zKO h,if_pos (by omega)]
theorem zRV {L:List RI} {j:Nat} {e:Nat} (h:L.length≤j) (he:zEt (L.drop j)=e):0=e:=by
 rw [← he,List.drop_eq_nil_of_le h];rfl
theorem zSq {L:List RI} (h:zEt L=0):∀ x∈L,zV x.t x.tm x.l=0:=by
 induction L with
 | nil=>intro x hx;cases hx
 | cons y l ih =>
  unfold zEt at h
  split at h
  ·next h2=>exact absurd h h2
  ·next h2 =>
   intro x hx
   rcases List.mem_cons.1 hx with e | e
   ·rw [e];exact Decidable.not_not.1 h2
   ·exact ih h x e
def zFz (c:zAG) (L:List RI):Nat:=if zCm c≠0 then zCm c else zEt L
theorem zbb {c:zAG} {L:List RI} (h:((zCm c:Nat):Int)≠0):zCm c=zFz c L:=(if_pos (by omega)).symm
theorem zXN {c:zAG} {L:List RI} {e:Nat} (h:((zCm c:Nat):Int)=0) (he:e=zEt L):e=zFz c L:=by unfold zFz;rw [if_neg (by omega),he]
theorem zQw {c:zAG} {L:List RI} (h:zFz c L=0):zCm c=0∧zEt L=0:=by
 unfold zFz at h
 split at h
 · next h2=>exact absurd h h2
 · next h2=>exact ⟨Decidable.not_not.1 h2,h⟩
def zCN (x:zS):zGA:=⟨x.id,x.p0,x.p1,x.p2,x.a,0⟩
def pL (n d x y:Int):Int:=bif zBq n d==0 then zDF x y n d else 0
def pC (n d x u y v:Int):Int:=bif zBq n d==0 then cAt x u y v n d else 0
def pA (n d:Int) (x y:BitVec 16):BitVec 16:=bif zBq n d==0 then zaX x y n d else 0#16
def pW (c:Bool) (n d x u y v:Int):Int:=bif c then pC n d x u y v else pL n d x y
def zdl (c:Bool) (n d:Int) (x y:zS):zGA:=⟨x.id,pW c n d x.p0 x.v0 y.p0 y.v0,pW c n d x.p1 x.v1 y.p1 y.v1,pW c n d x.p2 x.v2 y.p2 y.v2,pA n d x.a y.a,bif c then 2 else 1⟩
def zUa (c:Bool) (n d:Int) (B:List zS) (x:zS):zGA:=if (zA2 x.id B).isSome=true∧((zA2 x.id B).getD zDS).g=x.g then zdl c n d x ((zA2 x.id B).getD zDS) else zCN x
def zEe (c:zAG) (a b:RI) (t:Int):Nat:=if zFz c [a,b]≠0 then zFz c [a,b] else (zAy a b t).2.2
def zD5 (c:zAG) (a b:RI) (t:Int):List zGA:=if zEe c a b t≠0 then [] else a.l.map (zUa c.curve (zAy a b t).1 (zAy a b t).2.1 b.l)
def za1 (m k:Int) (x:zS):zGA:=⟨x.id,zDD x.p0 (zA0 x.v0 k),zDD x.p1 (zA0 x.v1 k),zDD x.p2 (zA0 x.v2 k),x.a,m⟩
def zEb (c:zAG) (x:RI) (t:Int):Nat:=if zFz c [x]≠0 then zFz c [x] else (zIW x t).2
def zKZ (c:zAG) (d:Int):Int:=if d=0 then 0 else if c.extra<d then 4 else 3
def zJb (c:zAG) (d:Int):Int:=if d=0 then d else if c.extra<d then c.extra else d
def zDu (c:zAG) (x:RI) (t:Int):List zGA:=if zEb c x t≠0 then [] else x.l.map (za1 (zKZ c (zIW x t).1) (zJb c (zIW x t).1))
def zEU (c:zAG) (L:List RI) (t:Int):List zGA×Nat :=
 if zFz c L≠0 then ([],zFz c L) else if (zBN L t).2.2≠0 then ([],(zBN L t).2.2)
 else if (zBN L t).2.1<0 then (zDu c (L.getD (zBN L t).1.toNat default) t,zEb c (L.getD (zBN L t).1.toNat default) t)
 else (zD5 c (L.getD (zBN L t).1.toNat default) (L.getD (zBN L t).2.1.toNat default) t,zEe c (L.getD (zBN L t).1.toNat default) (L.getD (zBN L t).2.1.toNat default) t)
structure RI.ok (w:World) (x:RI):Prop where
 t : -9223372036854775808≤x.t∧x.t≤9223372036854775807
 tm : -9223372036854775808≤x.tm∧x.tm≤9223372036854775807
 rd:Rd w [] x.v 9 x.l.length (x.l.flatMap zBJ)
 wf:∀ e∈x.l,e.wf
theorem RI.ok.to {x:RI} {w0 w:World} {M:List HA} (h:x.ok w0) (hm:Mem w0 [] M w):x.ok w:=⟨h.t,h.tm,hm.rd0 h.rd,h.wf⟩
theorem zbj {x:RI} {w:World} (h:x.ok w):∀ z∈[x],z.ok w:=by
 intro z hz;rw [List.mem_singleton] at hz;rw [hz];exact h
theorem zcf {x y:RI} {w:World} (h:x.ok w) (h2:y.ok w):∀ z∈[x,y],z.ok w:=by
 intro z hz;rw [List.mem_cons,List.mem_singleton] at hz;rcases hz with e | e<;>rw [e]<;>assumption
theorem zcQ {L:List RI} {w:World} (h:∀ x∈L,x.ok w):∀ x∈L,zD3 x.v x.l.length:=λx hx=>(h x hx).rd.isSl
theorem zC0 {f:zS→zGA} {l:List zS} {j:Nat} (h:j<l.length):(l.take j).map f++[f (l.getD j default)]=(l.take (j+1)).map f:=by
 rw [List.take_succ_eq_append_getElem h,List.map_append,List.getD_eq_getElem?_getD,List.getElem?_eq_getElem h];rfl
theorem zNm : zDS.wf:=by constructor<;>(show _≤(0:Int)∧(0:Int)≤_;omega)
theorem zY5 {l:List zS} {k:Int} (h:∀ e∈l,e.wf):((zA2 k l).getD zDS).wf:=by
 cases hg:zA2 k l with
 | none=>exact zNm
 | some e=>exact h e (zGa hg).1
theorem zPc {c:zAG} {L:List RI} {x:RI} (h:zFz c L=0) (hx:x∈L):x.l.length≤64:=by
 have h1:=zSq (zQw h).2 x hx
 unfold zV at h1
 split at h1
 ·cases h1
 ·split at h1
  ·cases h1
  ·omega
theorem zPm (x:RI) (t:Int) : -9223372036854775808≤(zIW x t).1∧(zIW x t).1≤9223372036854775807:=by
 unfold zIW
 split
 ·dsimp only;omega
 ·split
  ·dsimp only;omega
  ·exact zCG _ _
theorem zFf {c:zAG} {d:Int} (h:d=0):0=zKZ c d∧d=zJb c d:=by unfold zKZ zJb;rw [if_pos h,if_pos h];exact ⟨rfl,rfl⟩
theorem zFi {c:zAG} {d:Int} (h:d≠0) (h2:c.extra<d):4=zKZ c d∧c.extra=zJb c d:=by unfold zKZ zJb;rw [if_neg h,if_neg h,if_pos h2,if_pos h2];exact ⟨rfl,rfl⟩
theorem zFV {c:zAG} {d:Int} (h:d≠0) (h2:¬ c.extra<d):3=zKZ c d∧d=zJb c d:=by unfold zKZ zJb;rw [if_neg h,if_neg h,if_neg h2,if_neg h2];exact ⟨rfl,rfl⟩
theorem zaq {c:zAG} {x:RI} {t:Int} (h:((zFz c [x]:Nat):Int)≠0):zEb c x t=zFz c [x]:=if_pos (by omega)
theorem zUF {c:zAG} {x:RI} {t:Int} (h:zFz c [x]=0):zEb c x t=(zIW x t).2:=by unfold zEb;rw [if_neg (by omega)]
theorem zZW {c:zAG} {x:RI} {t:Int} (h:zEb c x t=0):zDu c x t=x.l.map (za1 (zKZ c (zIW x t).1) (zJb c (zIW x t).1)):=by unfold zDu;rw [if_neg (by omega)]
theorem zSw {c:zAG} {x:RI} {t:Int} (h:((zEb c x t:Nat):Int)≠0):zDu c x t=[]:=by unfold zDu;rw [if_pos (by omega)]
theorem zab {c:zAG} {x y:RI} {t:Int} (h:((zFz c [x,y]:Nat):Int)≠0):zEe c x y t=zFz c [x,y]:=if_pos (by omega)
theorem zTq {c:zAG} {x y:RI} {t:Int} (h:zFz c [x,y]=0):zEe c x y t=(zAy x y t).2.2:=by unfold zEe;rw [if_neg (by omega)]
theorem zZY {c:zAG} {x y:RI} {t:Int} (h:zEe c x y t=0):zD5 c x y t=x.l.map (zUa c.curve (zAy x y t).1 (zAy x y t).2.1 y.l):=by unfold zD5;rw [if_neg (by omega)]
theorem zUB {c:zAG} {x y:RI} {t:Int} (h:((zEe c x y t:Nat):Int)≠0):zD5 c x y t=[]:=by unfold zD5;rw [if_pos (by omega)]
theorem zaD {c:zAG} {L:List RI} {t:Int} (h:((zFz c L:Nat):Int)≠0):zEU c L t=([],zFz c L):=if_pos (by omega)
theorem zZq {c:zAG} {L:List RI} {t:Int} (h:zFz c L=0) (h2:(((zBN L t).2.2:Nat):Int)≠0):zEU c L t=([],(zBN L t).2.2):=by unfold zEU;rw [if_neg (by omega),if_pos (by omega)]
theorem zZF {c:zAG} {L:List RI} {t:Int} {i:Nat} (h:zFz c L=0) (h2:(zBN L t).2.2=0) (h3:(zBN L t).1=(i:Int)) (h4:(zBN L t).2.1<0):zEU c L t=(zDu c (L.getD i default) t,zEb c (L.getD i default) t):=by
 unfold zEU;rw [if_neg (by omega),if_neg (by omega),if_pos h4,h3];rfl
theorem zaJ {c:zAG} {L:List RI} {t:Int} {i k:Nat} (h:zFz c L=0) (h2:(zBN L t).2.2=0) (h3:(zBN L t).1=(i:Int)) (h4:(zBN L t).2.1=(k:Int)):zEU c L t=(zD5 c (L.getD i default) (L.getD k default) t,zEe c (L.getD i default) (L.getD k default) t):=by
 unfold zEU;rw [if_neg (by omega),if_neg (by omega),if_neg (by omega),h3,h4];rfl
theorem zR3 {l:List zS} {i:Nat} (h:i<l.length):l.getD i default∈l:=by
 rw [List.getD_eq_getElem?_getD,List.getElem?_eq_getElem h];exact List.getElem_mem h
theorem zdt {b:Bool} {q:Prop} (h:b=false):¬ (b=true∧q):=λk=>by rw [h] at k;cases k.1
theorem zdq {p:Prop} {a b:BitVec 8} (h:((a.toNat:Nat):Int)≠((b.toNat:Nat):Int)):¬ (p∧a=b):=λk=>h (by rw [k.2])
theorem zaR {c:Bool} {n d:Int} {B:List zS} {x:zS} (h:(zA2 x.id B).isSome=true∧((zA2 x.id B).getD zDS).g=x.g):zUa c n d B x=zdl c n d x ((zA2 x.id B).getD zDS):=if_pos h
theorem zT1 {c:Bool} {n d:Int} {B:List zS} {x:zS} (h:¬ ((zA2 x.id B).isSome=true∧((zA2 x.id B).getD zDS).g=x.g)):zUa c n d B x=zCN x:=if_neg h
end Go.Sx
