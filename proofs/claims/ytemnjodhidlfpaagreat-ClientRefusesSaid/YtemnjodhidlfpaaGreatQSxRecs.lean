import Derived.Test.YtemnjodhidlfpaaGreatQSxBasA
import Derived.Test.YtemnjodhidlfpaaGreatQSxBasB
/- Texts of the small logic, one behind the other: SxPvar, SxPrd, SxPrec, SxPrecR, SxPent, SxRrd, SxPrecL, SxPrecM, SxPrecB. -/
set_option linter.unusedVariables false
set_option linter.unusedSimpArgs false
namespace Go.Sx

def zAq (x:Nat):Nat:=if x = 0 then 0 else Nat.log2 x + 1
theorem zDW {x k:Nat} (h:x < 2 ^ k):zAq x ≤ k:=by
 unfold zAq
 split
 · omega
 · rename_i h0
   have:=(Nat.log2_lt h0).2 h
   omega
theorem zGV {x k:Nat} (h:2 ^ k ≤ x):k < zAq x:=by
 unfold zAq
 have h0:x ≠ 0:=by have:=Nat.two_pow_pos k;omega
 rw [if_neg h0]
 have:=(Nat.le_log2 h0).2 h
 omega
theorem zJr {x k:Nat} (h1:x < 2 ^ (k + 1)) (h2:2 ^ k ≤ x):zAq x = k + 1:=by
 have:=zDW h1
 have:=zGV h2
 omega
theorem zHD {x:Nat} (k:Nat) (h:2 ^ k ≤ x):zAq x = k + zAq (x / 2 ^ k):=by
 have hp:=Nat.two_pow_pos k
 have hq:1 ≤ x / 2 ^ k:=(Nat.le_div_iff_mul_le hp).2 (by omega)
 have h0:x / 2 ^ k ≠ 0:=by omega
 have hb:zAq (x / 2 ^ k) = Nat.log2 (x / 2 ^ k) + 1:=by unfold zAq;rw [if_neg h0]
 have l1:=Nat.log2_self_le h0
 have l2:=Nat.lt_log2_self (n:=x / 2 ^ k)
 rw [hb]
 refine (zJr (k:=k + Nat.log2 (x / 2 ^ k)) ?_ ?_).trans (by omega)
 · rw [Nat.add_assoc,Nat.pow_add]
   rw [Nat.mul_comm]
   exact (Nat.div_lt_iff_lt_mul hp).1 l2
 · rw [Nat.pow_add,Nat.mul_comm]
   exact (Nat.le_div_iff_mul_le hp).1 l1
def zGY : Nat → Nat → List zP
 | 0,x=>[BitVec.ofNat 8 x]
 | k + 1,x=>if x < 128 then [BitVec.ofNat 8 x] else BitVec.ofNat 8 (x % 128 + 128) :: zGY k (x / 128)
def zCS (x:Nat):List zP:=zGY 9 x
def zBY (x:Nat):Nat:=(zCS x).length
theorem zJE : ∀ (k j x:Nat),x < 128 ^ (k + 1) → zGY (k + j) x = zGY k x
 | 0,0,x,_=>rfl
 | 0,j + 1,x,h=>by rw [Nat.zero_add];simp only [zGY];rw [if_pos (by simpa using h)]
 | k + 1,j,x,h=>by
   rw [show k + 1 + j = (k + j) + 1 by omega]
   simp only [zGY]
   by_cases hx:x < 128
   · rw [if_pos hx,if_pos hx]
   · rw [if_neg hx,if_neg hx,zJE k j (x / 128) (by rw [Nat.div_lt_iff_lt_mul (by omega)];rw [Nat.pow_succ] at h;exact h)]
theorem zDq {x:Nat} (h:x < 128):zCS x = [BitVec.ofNat 8 x]:=by unfold zCS;simp only [zGY];rw [if_pos h]
theorem zE0 {x:Nat} (h:¬ x < 128) (hx:x < 2 ^ 64):zCS x = BitVec.ofNat 8 (x % 128 + 128) :: zCS (x / 128):=by
 unfold zCS
 rw [show (9:Nat) = 8 + 1 by rfl]
 rw [show zGY (8 + 1) x = BitVec.ofNat 8 (x % 128 + 128) :: zGY 8 (x / 128) by simp only [zGY];rw [if_neg h]]
 rw [zJE 8 1 (x / 128) (by rw [Nat.div_lt_iff_lt_mul (by omega)];omega)]
theorem zON : ∀ (k x:Nat),(zGY k x).length ≤ k + 1
 | 0,x=>by simp [zGY]
 | k + 1,x=>by
   simp only [zGY]
   split
   · simp
   · have:=zON k (x / 128)
     simp;omega
theorem zC1 (x:Nat):zBY x ≤ 10:=zON 9 x
theorem zC8 (x:Nat):1 ≤ zBY x:=by
 unfold zBY zCS
 simp only [zGY]
 split <;> simp
theorem zDy {x:Nat} (h:x < 128):zBY x = 1:=by unfold zBY;rw [zDq h];rfl
theorem zCm {x:Nat} (h:¬ x < 128) (hx:x < 2 ^ 64):zBY x = zBY (x / 128) + 1:=by unfold zBY;rw [zE0 h hx];simp
theorem zLW {x:Nat} (h:x < 128):zAq x ≤ 7:=zDW (k:=7) h
theorem zWQ : ∀ (d x:Nat),x < 2 ^ 64 → x ≤ d → zBY x = (max 1 (zAq x) + 6) / 7:=by
 intro d
 induction d using Nat.strongRecOn with
 | _ d ih =>
   intro x hx hd
   by_cases h:x < 128
   · rw [zDy h]
     have:=zLW h
     omega
   · have h2:=zHD (x:=x) 7 (by omega)
     rw [show (2:Nat) ^ 7 = 128 by rfl] at h2
     have h3:1 ≤ zAq (x / 128):=zGV (k:=0) (by omega)
     rw [zCm h hx,ih (x / 128) (by omega) (x / 128) (by omega) (Nat.le_refl _),h2]
     omega
theorem zSz (X:BitVec 64):(max 1 ((zAq X.toNat:Nat):Int) + 7 - 1) / 7 = ((zBY X.toNat:Nat):Int):=by
 rw [zWQ X.toNat X.toNat X.isLt (Nat.le_refl _)]
 omega
def zL9 (X:BitVec 64) (m:Nat):Nat → List zP
 | 0=>List.replicate m 0#8
 | k + 1=>(zL9 X m k).set k ((X >>> (7 * k)).setWidth 8 ||| 128#8)
theorem zDT (X:BitVec 64) (m:Nat):∀ k,(zL9 X m k).length = m
 | 0=>by simp [zL9]
 | k + 1=>by simp [zL9,zDT X m k]
theorem zJ8 (X:BitVec 64) (m:Nat):∀ (k i:Nat),i < k → i < m → (zL9 X m k)[i]? = some ((X >>> (7 * i)).setWidth 8 ||| 128#8)
 | 0,i,h,_=>by omega
 | k + 1,i,h,hm=>by
   simp only [zL9]
   by_cases e:k = i
   · subst e
     rw [List.getElem?_set_self (by rw [zDT];exact hm)]
   · rw [List.getElem?_set_ne e]
     exact zJ8 X m k i (by omega) hm
theorem zVc (c:zP):(c ||| 128#8).toNat = c.toNat % 128 + 128:=by
 have:∀ c:BitVec 8,(c ||| 128#8).toNat = c.toNat % 128 + 128:=by decide +kernel
 exact this c
theorem zMh (c:zP):(c &&& ~~~128#8).toNat = c.toNat % 128:=by
 have:∀ c:BitVec 8,(c &&& ~~~128#8).toNat = c.toNat % 128:=by decide +kernel
 exact this c
theorem zHG (X:BitVec 64) (i:Nat):((X >>> (7 * i)).setWidth 8).toNat = X.toNat / 2 ^ (7 * i) % 256:=by
 rw [BitVec.toNat_setWidth,BitVec.toNat_ushiftRight,Nat.shiftRight_eq_div_pow]
theorem zKk : ∀ (n i x:Nat),zBY x = n → x < 2 ^ 64 → i < n → (zCS x)[i]? = some (if i + 1 = n then BitVec.ofNat 8 (x / 128 ^ i) else BitVec.ofNat 8 (x / 128 ^ i % 128 + 128)):=by
 intro n
 induction n with
 | zero=>intro i x _ _ h;omega
 | succ n ih =>
   intro i x hn hx hi
   by_cases h:x < 128
   · have h1:=zDy h
     have:n = 0:=by omega
     subst this
     have:i = 0:=by omega
     subst this
     rw [zDq h]
     simp
   · have h1:=zCm h hx
     have hpos:=zC8 (x / 128)
     rw [zE0 h hx]
     cases i with
     | zero =>
       rw [if_neg (by omega)]
       simp
     | succ i =>
       rw [List.getElem?_cons_succ,ih i (x / 128) (by omega) (by omega) (by omega)]
       rw [Nat.div_div_eq_div_mul,show 128 * 128 ^ i = 128 ^ (i + 1) by rw [Nat.pow_succ,Nat.mul_comm]]
       by_cases e:i + 1 = n
       · rw [if_pos e,if_pos (by omega)]
       · rw [if_neg e,if_neg (by omega)]
theorem zbG (i:Nat):(2:Nat) ^ (7 * i) = 128 ^ i:=by rw [Nat.pow_mul]
theorem zNb (n x:Nat) (hn:zBY x = n + 1) (hx:x < 2 ^ 64):x / 128 ^ n < 128:=by
 induction n generalizing x with
 | zero =>
   by_cases h:x < 128
   · simpa using h
   · have:=zCm h hx;have:=zC8 (x / 128);omega
 | succ n ih =>
   by_cases h:x < 128
   · have:=zDy h;omega
   · have:=zCm h hx
     have:=ih (x / 128) (by omega) (by omega)
     rwa [Nat.div_div_eq_div_mul,show 128 * 128 ^ n = 128 ^ (n + 1) by rw [Nat.pow_succ,Nat.mul_comm]] at this
theorem zal (X:BitVec 64) (m:Nat) (hm:zBY X.toNat = m):(zL9 X m m).set (m - 1) ((zL9 X m m).getD (m - 1) 0 &&& ~~~128#8) = zCS X.toNat:=by
 have hpos:=zC8 X.toNat
 have hlen:(zCS X.toNat).length = m:=hm
 apply List.ext_getElem?
 intro i
 by_cases hi:i < m
 · rw [zKk m i X.toNat hm X.isLt hi]
   by_cases e:m - 1 = i
   · subst e
     rw [List.getElem?_set_self (by rw [zDT];exact hi),if_pos (by omega)]
     have hg:=zJ8 X m m (m - 1) (by omega) hi
     have ht:=zNb (m - 1) X.toNat (by omega) X.isLt
     congr 1
     apply BitVec.eq_of_toNat_eq
     rw [zMh,List.getD_eq_getElem?_getD,hg,Option.getD_some,zVc,zHG,zbG,BitVec.toNat_ofNat]
     generalize X.toNat / 128 ^ (m - 1) = q at *
     omega
   · rw [List.getElem?_set_ne e,zJ8 X m m i hi hi,if_neg (by omega)]
     congr 1
     apply BitVec.eq_of_toNat_eq
     rw [zVc,zHG,zbG,BitVec.toNat_ofNat]
     omega
 · rw [List.getElem?_eq_none (by rw [List.length_set,zDT];omega),List.getElem?_eq_none (by omega)]
theorem zWp : ∀ (n x:Nat),1 ≤ n → x < 2 ^ 64 → x < 128 ^ n → zBY x ≤ n:=by
 intro n
 induction n with
 | zero=>intro x h;omega
 | succ n ih =>
   intro x h1 hx h
   by_cases hs:x < 128
   · rw [zDy hs];omega
   · have h2:=zCm hs hx
     cases n with
     | zero=>simp at h;omega
     | succ n =>
       have:=ih (x / 128) (by omega) (by omega) (by rw [Nat.div_lt_iff_lt_mul (by omega)];rw [Nat.pow_succ] at h;exact h)
       omega
/-! ### What is got -/
def zEe : List zP → Nat
 | []=>0
 | c :: l=>c.toNat % 128 + 128 * zEe l
def zA3 : Nat → List zP → Nat
 | 0,_=>0
 | _,[]=>0
 | k + 1,c :: l=>if 128 ≤ c.toNat then zA3 k l + 1 else 0
def zCR (b:List zP):BitVec 64 × Nat × Nat :=
 if b.length = 0 then (0#64,0,5) else if zA3 10 b = 10 then (0#64,0,8) else if zA3 10 b = b.length then (0#64,0,6)
 else if zA3 10 b = 9 ∧ 1 < (b.getD (zA3 10 b) 0).toNat then (0#64,0,8)
 else if (b.getD (zA3 10 b) 0).toNat = 0 ∧ 0 < zA3 10 b then (0#64,0,7)
 else (BitVec.ofNat 64 (zEe (b.take (zA3 10 b + 1))),zA3 10 b + 1,0)
theorem zFx : ∀ (k:Nat) (b:List zP),zA3 k b ≤ k ∧ zA3 k b ≤ b.length
 | 0,b=>by simp [zA3]
 | k + 1,[]=>by simp [zA3]
 | k + 1,c :: l=>by
   have:=zFx k l
   simp only [zA3]
   split
   · simp;omega
   · simp
theorem zFF : ∀ (k i:Nat) (b:List zP),i ≤ zA3 k b → i < k → i < b.length → 128 ≤ (b.getD i 0).toNat → i + 1 ≤ zA3 k b
 | 0,i,b,_,h,_,_=>by omega
 | k + 1,i,[],_,_,h,_=>by simp at h
 | k + 1,0,c :: l,_,_,_,h=>by
   simp only [zA3]
   rw [if_pos (by simpa using h)]
   omega
 | k + 1,i + 1,c :: l,h1,h2,h3,h4=>by
   simp only [zA3] at *
   split at h1
   · rename_i hc
     rw [if_pos hc]
     have:=zFF k i l (by omega) (by omega) (by simpa using h3) (by simpa using h4)
     omega
   · omega
theorem zE9 : ∀ (k i:Nat) (b:List zP),i ≤ zA3 k b → i < b.length → (b.getD i 0).toNat < 128 → zA3 k b = i
 | 0,i,b,h,_,_=>by simp only [zA3] at *;omega
 | k + 1,i,[],_,h,_=>by simp at h
 | k + 1,0,c :: l,_,_,h=>by
   simp only [zA3]
   rw [if_neg (by have:c.toNat < 128:=(by simpa using h);omega)]
 | k + 1,i + 1,c :: l,h1,h3,h4=>by
   simp only [zA3] at *
   split at h1
   · rename_i hc
     rw [if_pos hc,zE9 k i l (by omega) (by simpa using h3) (by simpa using h4)]
   · omega
theorem zKW : ∀ (b:List zP),zEe b < 128 ^ b.length
 | []=>by simp [zEe]
 | c :: l=>by
   have:=zKW l
   simp only [zEe,List.length_cons,Nat.pow_succ]
   omega
theorem zH1 : ∀ (b c:List zP),zEe (b ++ c) = zEe b + 128 ^ b.length * zEe c
 | [],c=>by simp [zEe]
 | x :: l,c=>by
   simp only [zEe,List.cons_append,zH1 l c,List.length_cons,Nat.pow_succ]
   rw [Nat.mul_add,Nat.mul_comm (128 ^ l.length) 128,Nat.mul_assoc]
   omega
theorem zK1 (b:List zP) (i:Nat) (h:i < b.length):zEe (b.take (i + 1)) = zEe (b.take i) + 128 ^ i * ((b.getD i 0).toNat % 128):=by
 rw [List.take_add_one,zH1]
 have:b[i]?.toList = [b.getD i 0]:=by simp [h,List.getD_eq_getElem?_getD]
 rw [this,List.length_take,Nat.min_eq_left (by omega)]
 simp [zEe]
theorem zHM (b : List zP) (i : Nat) (h : i < b.length) (h9 : i ≤ 9) :
   BitVec.ofNat 64 (zEe (b.take i)) ||| ((b.getD i 0 &&& ~~~128#8).setWidth 64) <<< (7 * i) = BitVec.ofNat 64 (zEe (b.take (i + 1))):=by
 have hl:=zKW (b.take i)
 rw [List.length_take,Nat.min_eq_left (by omega)] at hl
 have hp:128 ^ i ≤ 128 ^ 9:=Nat.pow_le_pow_right (by omega) h9
 have hp2:(128:Nat) ^ 9 < 2 ^ 64:=by decide
 have hc:(b.getD i 0).toNat % 128 < 128:=Nat.mod_lt _ (by omega)
 rw [zK1 b i h]
 apply BitVec.eq_of_toNat_eq
 rw [BitVec.toNat_or,BitVec.toNat_shiftLeft,BitVec.toNat_setWidth,zMh,BitVec.toNat_ofNat,BitVec.toNat_ofNat]
 rw [Nat.mod_eq_of_lt (by omega:(b.getD i 0).toNat % 128 < 2 ^ 64),Nat.mod_eq_of_lt (by omega:zEe (b.take i) < 2 ^ 64)]
 rw [Nat.or_comm,← zbG] at *
 have e:2 ^ (7 * i) * ((b.getD i 0).toNat % 128) + zEe (b.take i) = ((b.getD i 0).toNat % 128) <<< (7 * i) ||| zEe (b.take i):=by
   rw [← Nat.shiftLeft_add_eq_or_of_lt hl,Nat.shiftLeft_eq,Nat.mul_comm]
 rw [Nat.add_comm,e,Nat.or_mod_two_pow,Nat.mod_eq_of_lt (by omega:zEe (b.take i) < 2 ^ 64)]
theorem zZv (c:zP) (i:Nat) (h9:i ≤ 9):((((c &&& ~~~128#8).setWidth 64) <<< (7 * i)) >>> (7 * i) = (c &&& ~~~128#8).setWidth 64) ↔ ¬ (i = 9 ∧ 1 < c.toNat % 128):=by
 have hc:c.toNat % 128 < 128:=Nat.mod_lt _ (by omega)
 rw [← BitVec.toNat_inj]
 rw [BitVec.toNat_ushiftRight,BitVec.toNat_shiftLeft,BitVec.toNat_setWidth,zMh,Nat.shiftLeft_eq,Nat.shiftRight_eq_div_pow,Nat.mod_eq_of_lt (by omega:c.toNat % 128 < 2 ^ 64)]
 generalize c.toNat % 128 = q at *
 by_cases e:i = 9
 · subst e
   rw [show (7 * 9) = 63 by rfl]
   omega
 · have h1 : q * 2 ^ (7 * i) < 2 ^ 64 := by
     have:2 ^ (7 * i) ≤ 2 ^ (7 * 8):=Nat.pow_le_pow_right (by omega) (by omega)
     rw [show 7 * 8 = 56 by rfl] at this
     have:q * 2 ^ (7 * i) ≤ 127 * 2 ^ 56:=Nat.mul_le_mul (by omega) this
     omega
   rw [Nat.mod_eq_of_lt h1,Nat.mul_div_cancel _ (Nat.two_pow_pos _)]
   simp [e]
theorem zCM {b:List zP} (h:b.length = 0):zCR b = (0#64,0,5):=by unfold zCR;rw [if_pos h]
theorem zB5 {b:List zP} {i:Nat} (h1:i ≤ zA3 10 b) (hi:i < b.length) (h9:i ≤ 9) (hc:(b.getD i 0).toNat < 128) (ho:¬ ((((b.getD i 0 &&& ~~~128#8).setWidth 64) <<< (7 * i)) >>> (7 * i) = (b.getD i 0 &&& ~~~128#8).setWidth 64)):zCR b = (0#64,0,8):=by
 rw [zZv _ _ h9] at ho
 have hn:=zE9 10 i b h1 hi hc
 unfold zCR
 rw [if_neg (by omega),hn,if_neg (by omega),if_neg (by omega),if_pos (by omega)]
theorem zB1 {b:List zP} {i:Nat} (h1:i ≤ zA3 10 b) (hi:i < b.length) (h9:i ≤ 9) (hi0:0 < i) (h0:(b.getD i 0).toNat = 0):zCR b = (0#64,0,7):=by
 have hn:=zE9 10 i b h1 hi (by omega)
 unfold zCR
 rw [if_neg (by omega),hn,if_neg (by omega),if_neg (by omega),if_neg (by omega),if_pos (by omega)]
theorem zCh {b:List zP} {i:Nat} (h1:i ≤ zA3 10 b) (hi:i < b.length) (h9:i ≤ 9) (hc:(b.getD i 0).toNat < 128) (hov:(((b.getD i 0 &&& ~~~128#8).setWidth 64) <<< (7 * i)) >>> (7 * i) = (b.getD i 0 &&& ~~~128#8).setWidth 64) (h0:¬ ((b.getD i 0).toNat = 0 ∧ 0 < i)):zCR b = (BitVec.ofNat 64 (zEe (b.take (i + 1))),i + 1,0):=by
 rw [zZv _ _ h9] at hov
 have hn:=zE9 10 i b h1 hi hc
 unfold zCR
 rw [if_neg (by omega),hn,if_neg (by omega),if_neg (by omega),if_neg (by omega),if_neg (by omega)]
theorem zB6 {b:List zP} (h1:10 ≤ zA3 10 b):zCR b = (0#64,0,8):=by
 have:=zFx 10 b
 unfold zCR
 rw [if_neg (by omega),if_pos (by omega)]
theorem zBN {b:List zP} (h0:0 < b.length) (h1:b.length ≤ zA3 10 b) (hl:b.length < 10):zCR b = (0#64,0,6):=by
 have:=zFx 10 b
 unfold zCR
 rw [if_neg (by omega),if_neg (by omega),if_pos (by omega)]
/-! ### The document's own way -/
/-! ### There and back -/
theorem zRd : ∀ (n k x:Nat) (r:List zP),zBY x = n + 1 → x < 2 ^ 64 → n ≤ k → (n < k ∨ r = []) → zA3 k (zCS x ++ r) = n:=by
 intro n
 induction n with
 | zero =>
   intro k x r hn hx hk hr
   have h:x < 128:=by
     apply Classical.byContradiction
     intro h
     have:=zCm h hx;have:=zC8 (x / 128);omega
   rw [zDq h]
   cases k with
   | zero=>rfl
   | succ k =>
     simp only [List.singleton_append,zA3]
     rw [if_neg]
     rw [BitVec.toNat_ofNat]
     omega
 | succ n ih =>
   intro k x r hn hx hk hr
   have h:¬ x < 128:=by intro h;have:=zDy h;omega
   have h1:=zCm h hx
   rw [zE0 h hx]
   cases k with
   | zero=>omega
   | succ k =>
     simp only [List.cons_append,zA3]
     rw [if_pos (by rw [BitVec.toNat_ofNat];omega),ih k (x / 128) r (by omega) (by omega) (by omega) (hr.imp (by omega) id)]
theorem zTH : ∀ (n x:Nat),zBY x = n → x < 2 ^ 64 → zEe (zCS x) = x:=by
 intro n
 induction n with
 | zero=>intro x hn;have:=zC8 x;omega
 | succ n ih =>
   intro x hn hx
   by_cases h:x < 128
   · rw [zDq h]
     simp only [zEe,BitVec.toNat_ofNat]
     omega
   · have h1:=zCm h hx
     rw [zE0 h hx]
     simp only [zEe,BitVec.toNat_ofNat]
     rw [ih (x / 128) (by omega) (by omega)]
     omega
theorem zVD (X:BitVec 64) (r:List zP):zCR (zCS X.toNat ++ r) = (X,zBY X.toNat,0):=by
 have hx:=X.isLt
 have hp:=zC8 X.toNat
 have hle:=zC1 X.toNat
 have hl:(zCS X.toNat).length = zBY X.toNat:=rfl
 have hn:=zRd (zBY X.toNat - 1) 10 X.toNat r (by omega) hx (by omega) (by omega)
 have ht:=zNb (zBY X.toNat - 1) X.toNat (by omega) hx
 have hg:=zKk (zBY X.toNat) (zBY X.toNat - 1) X.toNat rfl hx (by omega)
 rw [if_pos (by omega)] at hg
 have hd:(zCS X.toNat ++ r).getD (zBY X.toNat - 1) 0 = BitVec.ofNat 8 (X.toNat / 128 ^ (zBY X.toNat - 1)):=by
   rw [List.getD_eq_getElem?_getD,List.getElem?_append_left (by omega),hg]
   rfl
 have hdn:((zCS X.toNat ++ r).getD (zBY X.toNat - 1) 0).toNat = X.toNat / 128 ^ (zBY X.toNat - 1):=by
   rw [hd,BitVec.toNat_ofNat]
   generalize X.toNat / 128 ^ (zBY X.toNat - 1) = q at *
   omega
 have h9:zBY X.toNat - 1 = 9 → ¬ 1 < X.toNat / 128 ^ (zBY X.toNat - 1):=by
   intro e
   rw [e,show (128:Nat) ^ 9 = 9223372036854775808 by rfl]
   omega
 have h0:0 < zBY X.toNat - 1 → ¬ X.toNat / 128 ^ (zBY X.toNat - 1) = 0:=by
   intro h0 e
   have:=Nat.div_eq_zero_iff.1 e
   rcases this with h | h
   · have:=Nat.pos_of_ne_zero (n:=128 ^ (zBY X.toNat - 1)) (by intro h;have:=Nat.pow_eq_zero.1 h;omega);omega
   · have:=zWp (zBY X.toNat - 1) X.toNat (by omega) hx h
     omega
 unfold zCR
 have hla:(zCS X.toNat ++ r).length = zBY X.toNat + r.length:=by rw [List.length_append,hl]
 rw [if_neg (by omega),hn,if_neg (by omega),if_neg (by omega),hdn,if_neg (fun h=>h9 h.1 h.2),if_neg (fun h=>h0 h.2 h.1),show zBY X.toNat - 1 + 1 = zBY X.toNat by omega]
 rw [← hl,List.take_left',zTH _ _ rfl hx]
 · simp
 · rfl
theorem zRy (X:BitVec 64) (i:Nat) (h1:1 ≤ i) (h2:i < zBY X.toNat):zCR ((zCS X.toNat).take i) = (0#64,0,6):=by
 have hle:=zC1 X.toNat
 have hl:(zCS X.toNat).length = zBY X.toNat:=rfl
 refine zBN (by simp;omega) ?_ (by simp;omega)
 have:∀ j,j ≤ i → j ≤ zA3 10 ((zCS X.toNat).take i):=by
   intro j
   induction j with
   | zero=>intro _;omega
   | succ j ih =>
     intro hj
     refine zFF 10 j _ (ih (by omega)) (by omega) (by simp;omega) ?_
     have hg:=zKk (zBY X.toNat) j X.toNat rfl X.isLt (by omega)
     rw [if_neg (by omega)] at hg
     rw [List.getD_eq_getElem?_getD,List.getElem?_take_of_lt (by omega),hg,Option.getD_some,BitVec.toNat_ofNat]
     omega
 have:=this i (Nat.le_refl _)
 simp;omega
theorem zU2 : ∀ (n:Nat) (b:List zP),n < b.length → (∀ j,j < n → 128 ≤ (b.getD j 0).toNat) → (b.getD n 0).toNat < 128 → ¬ ((b.getD n 0).toNat = 0 ∧ 0 < n) → zEe (b.take (n + 1)) < 2 ^ 64 → zCS (zEe (b.take (n + 1))) = b.take (n + 1) ∧ ((b.getD n 0).toNat ≠ 0 → zEe (b.take (n + 1)) ≠ 0):=by
 intro n
 induction n with
 | zero =>
   intro b hb _ hc _ _
   cases b with
   | nil=>simp at hb
   | cons c l =>
     have hc':c.toNat < 128:=by simpa using hc
     simp only [Nat.zero_add,List.take_succ_cons,List.take_zero,zEe,Nat.mul_zero,Nat.add_zero]
     rw [Nat.mod_eq_of_lt hc',zDq hc']
     simp
 | succ n ih =>
   intro b hb hj hc h0 hv
   cases b with
   | nil=>simp at hb
   | cons c l =>
     have hc0:128 ≤ c.toNat:=by simpa using hj 0 (by omega)
     simp only [List.take_succ_cons,zEe] at hv ⊢
     simp only [List.getD_cons_succ] at hc h0
     have:=ih l (by simpa using hb) (fun j h=>by simpa using hj (j + 1) (by omega)) hc (by omega) (by omega)
     have hnz:=this.2 (by omega)
     refine ⟨?_,fun _=>by omega⟩
     rw [zE0 (by omega) hv]
     congr 1
     · apply BitVec.eq_of_toNat_eq
       have:=c.isLt
       rw [BitVec.toNat_ofNat]
       omega
     · rw [show (c.toNat % 128 + 128 * zEe (l.take (n + 1))) / 128 = zEe (l.take (n + 1)) by omega]
       exact this.1
theorem zLd : ∀ (k:Nat) (b:List zP) (j:Nat),j < zA3 k b → 128 ≤ (b.getD j 0).toNat
 | 0,b,j,h=>by simp [zA3] at h
 | k + 1,[],j,h=>by simp [zA3] at h
 | k + 1,c :: l,j,h=>by
   simp only [zA3] at h
   split at h
   · cases j with
     | zero=>simpa
     | succ j=>simpa using zLd k l j (by omega)
   · omega
theorem zJL : ∀ (k:Nat) (b:List zP),zA3 k b < k → zA3 k b < b.length → (b.getD (zA3 k b) 0).toNat < 128
 | 0,b,h,_=>by omega
 | k + 1,[],_,h=>by simp at h
 | k + 1,c :: l,h1,h2=>by
   simp only [zA3] at *
   split
   · rename_i hc
     rw [if_pos hc] at h1 h2
     simpa using zJL k l (by omega) (by simpa using h2)
   · simp;omega
theorem zKQ {b:List zP} {z:BitVec 64} {k:Nat} (h:zCR b = (z,k,0)):1 ≤ k ∧ k ≤ b.length ∧ zCS z.toNat = b.take k:=by
 have hle:=zFx 10 b
 unfold zCR at h
 split at h
 · simp at h
 split at h
 · simp at h
 split at h
 · simp at h
 split at h
 · simp at h
 split at h
 · simp at h
 rename_i h1 h2 h3 h4 h5
 simp only [Prod.mk.injEq] at h
 obtain ⟨rfl,rfl,_⟩:=h
 have hn:=zJL 10 b (by omega) (by omega)
 have hv:zEe (b.take (zA3 10 b + 1)) < 2 ^ 64:=by
   by_cases e:zA3 10 b = 9
   · rw [zK1 b _ (by omega)]
     have:=zKW (b.take (zA3 10 b))
     rw [List.length_take,Nat.min_eq_left (by omega)] at this
     rw [e] at this hn h4 ⊢
     rw [show (128:Nat) ^ 9 = 9223372036854775808 by rfl] at *
     omega
   · have:=zKW (b.take (zA3 10 b + 1))
     rw [List.length_take,Nat.min_eq_left (by omega)] at this
     have:(128:Nat) ^ (zA3 10 b + 1) ≤ 128 ^ 9:=Nat.pow_le_pow_right (by omega) (by omega)
     rw [show (128:Nat) ^ 9 = 9223372036854775808 by rfl] at this
     omega
 refine ⟨by omega,by omega,?_⟩
 rw [BitVec.toNat_ofNat,Nat.mod_eq_of_lt hv]
 exact (zU2 (zA3 10 b) b (by omega) (fun j hj=>zLd 10 b j hj) hn h5 hv).1

/-! ### How long a number is -/
def zW5 : ByteArray:=(ByteArray.mk (List.toArray (List.append (List.append [0,1,2,2,3,3,3,3,4,4,4,4,4,4,4,4,5,5,5,5,5,5,5,5,5,5,5,5,5,5,5,5,6,6,6,6,6,6,6,6,6,6,6,6,6,6,6,6,6,6,6,6,6,6,6,6,6,6,6,6,6,6,6,6] [7,7,7,7,7,7,7,7,7,7,7,7,7,7,7,7,7,7,7,7,7,7,7,7,7,7,7,7,7,7,7,7,7,7,7,7,7,7,7,7,7,7,7,7,7,7,7,7,7,7,7,7,7,7,7,7,7,7,7,7,7,7,7,7]) (List.append [8,8,8,8,8,8,8,8,8,8,8,8,8,8,8,8,8,8,8,8,8,8,8,8,8,8,8,8,8,8,8,8,8,8,8,8,8,8,8,8,8,8,8,8,8,8,8,8,8,8,8,8,8,8,8,8,8,8,8,8,8,8,8,8] [8,8,8,8,8,8,8,8,8,8,8,8,8,8,8,8,8,8,8,8,8,8,8,8,8,8,8,8,8,8,8,8,8,8,8,8,8,8,8,8,8,8,8,8,8,8,8,8,8,8,8,8,8,8,8,8,8,8,8,8,8,8,8,8]))))
theorem zDf : ∀ Y:BitVec 8,zW5[Y.toNat]? = some (UInt8.ofBitVec (BitVec.ofNat 8 (zAq Y.toNat))):=by decide +kernel
theorem zXi (Y:BitVec 64) (k:Nat) (h:2 ^ k ≤ Y.toNat):zAq Y.toNat = k + zAq (Y >>> k).toNat:=by
 rw [BitVec.toNat_ushiftRight,Nat.shiftRight_eq_div_pow]
 exact zHD k h
theorem zVl (Y:BitVec 64) (h:Y.toNat < 256):(BitVec.ofNat 8 (zAq (Y.setWidth 8).toNat)).toNat = zAq Y.toNat:=by
 rw [BitVec.toNat_setWidth,Nat.mod_eq_of_lt (by omega),BitVec.toNat_ofNat]
 have:=zDW (k:=8) h
 omega
theorem zEC (Y:BitVec 64) (k:Nat):(Y >>> k).toNat = Y.toNat / 2 ^ k:=by rw [BitVec.toNat_ushiftRight,Nat.shiftRight_eq_div_pow]
/-! ### The document's Put -/
/-! ### Of either sign -/
def zGc (x:Int):BitVec 64:=if 0 ≤ x then BitVec.ofInt 64 (2 * x) else BitVec.ofInt 64 (-2 * x - 1)
def zPW (X:BitVec 64):Int:=if X.toNat % 2 = 0 then ((X.toNat / 2:Nat):Int) else -((X.toNat / 2:Nat):Int) - 1
theorem zOs (p:Int):BitVec.ofInt 64 (IntKind.i64.wrap p) = BitVec.ofInt 64 p:=by
 rw [IntKind.wrap_i64]
 apply BitVec.eq_of_toNat_eq
 simp only [BitVec.toNat_ofInt]
 rw [show ((2 ^ 64:Nat):Int) = 18446744073709551616 by rfl]
 omega
theorem zaj (p:Int) (h : -9223372036854775808 ≤ p ∧ p ≤ 9223372036854775807):BitVec.ofInt 64 (IntKind.i64.wrap (p * 2 ^ (min 1 64))) ^^^ BitVec.ofInt 64 (p.fdiv (2 ^ (min 63 64))) = zGc p:=by
 rw [zOs]
 unfold zGc
 rw [show (2:Int) ^ (min 1 64) = 2 by decide,show (2:Int) ^ (min 63 64) = 9223372036854775808 by decide,Int.fdiv_eq_ediv_of_nonneg _ (by omega)]
 split
 · rw [show p / 9223372036854775808 = 0 by omega,Int.mul_comm]
   simp
 · rw [show p / 9223372036854775808 = -1 by omega]
   rw [show BitVec.ofInt 64 (-1) = BitVec.allOnes 64 by decide,BitVec.xor_allOnes]
   apply BitVec.eq_of_toNat_eq
   simp only [BitVec.toNat_not,BitVec.toNat_ofInt]
   omega
theorem zZ2 (X:BitVec 64):(X &&& 1#64).toInt = ((X.toNat % 2:Nat):Int):=by
 rw [BitVec.toInt_eq_toNat_cond,BitVec.toNat_and]
 simp [Nat.and_one_is_mod]
 omega
theorem zak (X:BitVec 64):(BitVec.ofInt 64 (X >>> 1).toInt ^^^ BitVec.ofInt 64 (-(X &&& 1#64).toInt)).toInt = zPW X:=by
 rw [zZ2,BitVec.ofInt_toInt]
 have hx:=X.isLt
 unfold zPW
 split
 · rename_i h
   rw [h]
   simp only [Int.natCast_zero,Int.neg_zero]
   rw [show BitVec.ofInt 64 0 = 0#64 by decide,BitVec.xor_zero,BitVec.toInt_eq_toNat_cond,zEC]
   rw [Nat.pow_one]
   split <;> omega
 · rename_i h
   rw [show X.toNat % 2 = 1 by omega]
   rw [show BitVec.ofInt 64 (-((1:Nat):Int)) = BitVec.allOnes 64 by decide,BitVec.xor_allOnes,BitVec.toInt_eq_toNat_cond,BitVec.toNat_not,zEC]
   rw [Nat.pow_one]
   split <;> omega
theorem zGF (X:BitVec 64) : -9223372036854775808 ≤ zPW X ∧ zPW X ≤ 9223372036854775807:=by
 have hx:=X.isLt
 unfold zPW
 split <;> omega
theorem zYI (p:Int) (h : -9223372036854775808 ≤ p ∧ p ≤ 9223372036854775807):zPW (zGc p) = p:=by
 unfold zGc
 split
 · unfold zPW
   rw [BitVec.toNat_ofInt]
   split <;> omega
 · unfold zPW
   rw [BitVec.toNat_ofInt]
   split <;> omega
theorem zIp {b:List zP} (h:(zCR b).2.2 = 0):1 ≤ (zCR b).2.1 ∧ (zCR b).2.1 ≤ b.length ∧ zCS (zCR b).1.toNat = b.take (zCR b).2.1 :=
 zKQ (z:=(zCR b).1) (k:=(zCR b).2.1) (by rw [← h])
end Go.Sx

set_option linter.unusedVariables false
set_option linter.unusedSimpArgs false
namespace Go.Sx
structure Rs where
 p:Nat
 e:Nat
def zH (bs:List zP) (R:Rs):zP × Rs:=if R.e ≠ 0 then (0#8,R) else if bs.length ≤ R.p then (0#8,⟨R.p,6⟩) else (bs.getD R.p 0,⟨R.p + 1,0⟩)
def zIu (b:List zP) (X:BitVec 64):Nat:=if (zCR b).2.2 = 0 ∧ X.toNat < (zCR b).1.toNat then 3 else (zCR b).2.2
def zO (bs:List zP) (X:BitVec 64) (R:Rs):BitVec 64 × Rs :=
 if R.e ≠ 0 then (0#64,R) else if bs.length ≤ R.p then (0#64,⟨R.p,6⟩) else if zIu (bs.drop R.p) X ≠ 0 then (0#64,⟨R.p,zIu (bs.drop R.p) X⟩) else ((zCR (bs.drop R.p)).1,⟨R.p + (zCR (bs.drop R.p)).2.1,0⟩)
def zAA (bs:List zP) (R:Rs):Int × Rs:=(zPW (zO bs 18446744073709551615#64 R).1,(zO bs 18446744073709551615#64 R).2)
def zBj (e:Nat) (R:Rs):Rs:=if R.e = 0 then ⟨R.p,e⟩ else R
def zIw (bs:List zP) (R:Rs):Nat:=if R.e ≠ 0 ∨ bs.length ≤ R.p then R.e else 8
def zY1 (bs:List zP) (R:Rs):Rs:=(zAA bs (zAA bs (zAA bs R).2).2).2
theorem zMF {b:List zP} {X:BitVec 64} (h:zIu b X = 0):(zCR b).2.2 = 0 ∧ ¬ X.toNat < (zCR b).1.toNat:=by
 unfold zIu at h
 split at h
 · cases h
 · rename_i h'
   exact ⟨h,fun h2=>h' ⟨h,h2⟩⟩
theorem zSj {b:List zP} {X:BitVec 64} (h:zIu b X = 0):1 ≤ (zCR b).2.1 ∧ (zCR b).2.1 ≤ b.length:=by
 have:=zIp (zMF h).1
 exact ⟨this.1,this.2.1⟩
theorem zTo (b:List zP):(zCR b).2.1 ≤ 10:=by
 have:=zFx 10 b
 unfold zCR
 repeat' split
 all_goals simp
 omega
theorem zCp {bs:List zP} {X:BitVec 64} {R:Rs} (h:R.e ≠ 0):zO bs X R = (0#64,R):=by unfold zO;rw [if_pos h]
theorem zCa {bs:List zP} {X:BitVec 64} {R:Rs} (h:R.e = 0) (h1:bs.length ≤ R.p):zO bs X R = (0#64,⟨R.p,6⟩):=by unfold zO;rw [if_neg (by omega),if_pos h1]
theorem zDt {bs:List zP} {X:BitVec 64} {R:Rs} (h:R.e = 0) (h1:¬ bs.length ≤ R.p) (h2:zIu (bs.drop R.p) X ≠ 0):zO bs X R = (0#64,⟨R.p,zIu (bs.drop R.p) X⟩):=by unfold zO;rw [if_neg (by omega),if_neg h1,if_pos h2]
theorem zDF {bs:List zP} {X:BitVec 64} {R:Rs} (h:R.e = 0) (h1:¬ bs.length ≤ R.p) (h2:zIu (bs.drop R.p) X = 0):zO bs X R = ((zCR (bs.drop R.p)).1,⟨R.p + (zCR (bs.drop R.p)).2.1,0⟩):=by unfold zO;rw [if_neg (by omega),if_neg h1,if_neg (by omega)]
theorem zDp {bs:List zP} {R:Rs} (h:R.e ≠ 0):zH bs R = (0#8,R):=by unfold zH;rw [if_pos h]
theorem zDQ {bs:List zP} {R:Rs} (h:R.e = 0) (h1:bs.length ≤ R.p):zH bs R = (0#8,⟨R.p,6⟩):=by unfold zH;rw [if_neg (by omega),if_pos h1]
theorem zD3 {bs:List zP} {R:Rs} (h:R.e = 0) (h1:¬ bs.length ≤ R.p):zH bs R = (bs.getD R.p 0,⟨R.p + 1,0⟩):=by unfold zH;rw [if_neg (by omega),if_neg h1]
theorem zA0 {bs:List zP} {X:BitVec 64} {R:Rs} (h:R.p ≤ bs.length):(zO bs X R).2.p ≤ bs.length ∧ R.p ≤ (zO bs X R).2.p ∧ (zO bs X R).2.p ≤ R.p + 10 ∧ (zO bs X R).1.toNat ≤ X.toNat ∧ (R.e ≠ 0 → zO bs X R = (0#64,R)):=by
 by_cases h0:R.e = 0
 · by_cases h1:bs.length ≤ R.p
   · rw [zCa h0 h1];simp;omega
   · by_cases h2:zIu (bs.drop R.p) X = 0
     · rw [zDF h0 h1 h2]
       have:=zSj h2
       have h3:=zTo (bs.drop R.p)
       have h4:=(zMF h2).2
       simp only [List.length_drop] at this
       simp [h0]
       omega
     · rw [zDt h0 h1 h2];simp [h0];omega
 · rw [zCp h0];simp;omega
theorem zD8 {bs:List zP} {R:Rs} (h:R.p ≤ bs.length):(zH bs R).2.p ≤ bs.length ∧ R.p ≤ (zH bs R).2.p ∧ (zH bs R).2.p ≤ R.p + 1 ∧ (R.e ≠ 0 → zH bs R = (0#8,R)):=by
 by_cases h0:R.e = 0
 · by_cases h1:bs.length ≤ R.p
   · rw [zDQ h0 h1];simp [h0];omega
   · rw [zD3 h0 h1];simp [h0];omega
 · rw [zDp h0];simp;omega
theorem zDG {bs:List zP} {R:Rs} (h:R.p ≤ bs.length):(zAA bs R).2.p ≤ bs.length ∧ R.p ≤ (zAA bs R).2.p ∧ (zAA bs R).2.p ≤ R.p + 10 ∧ (R.e ≠ 0 → zAA bs R = (0,R)):=by
 have:=zA0 (X:=18446744073709551615#64) h
 refine ⟨this.1,this.2.1,this.2.2.1,fun h0=>?_⟩
 unfold zAA
 rw [this.2.2.2.2 h0]
 simp [zPW]
theorem zWJ {bs:List zP} {R:Rs} (h:R.p ≤ bs.length):(zY1 bs R).p ≤ bs.length ∧ R.p ≤ (zY1 bs R).p ∧ (zY1 bs R).p ≤ R.p + 30:=by
 have h1:=zDG h
 have h2:=zDG h1.1
 have h3:=zDG h2.1
 unfold zY1
 omega
theorem zBX {bs:List zP} {e:Nat} {R:Rs} (h:R.p ≤ bs.length):(zBj e R).p ≤ bs.length ∧ (zBj e R).p = R.p ∧ (R.e = 0 → (zBj e R).e = e) ∧ (R.e ≠ 0 → (zBj e R).e = R.e):=by
 unfold zBj
 split
 · rename_i h0;simp [h,h0]
 · rename_i h0;simp [h,h0]
theorem zOw {bs:List zP} {R:Rs} (h:R.e ≠ 0):(zH bs R).2.p = R.p ∧ (zH bs R).2.e = R.e ∧ (zH bs R).1.toNat = 0:=by rw [zDp h];simp
theorem zJQ {bs:List zP} {X:BitVec 64} {R:Rs} (h:R.e ≠ 0):(zO bs X R).2.p = R.p ∧ (zO bs X R).2.e = R.e ∧ (zO bs X R).1.toNat = 0:=by rw [zCp h];simp
theorem zLG {bs:List zP} {R:Rs} (h:R.e ≠ 0):(zAA bs R).2.p = R.p ∧ (zAA bs R).2.e = R.e ∧ (zAA bs R).1 = 0:=by
 unfold zAA
 rw [zCp h]
 simp [zPW]
end Go.Sx

set_option linter.unusedVariables false
set_option linter.unusedSimpArgs false
namespace Go.Sx
structure zAB where
 k:Int
 id:Int
 p0:Int
 p1:Int
 p2:Int
 v0:Int
 v1:Int
 v2:Int
 a:BitVec 16
instance : Inhabited zAB:=⟨⟨0,0,0,0,0,0,0,0,0#16⟩⟩
structure zAB.wf (r:zAB):Prop where
 k : -9223372036854775808 ≤ r.k ∧ r.k ≤ 9223372036854775807
 id : -9223372036854775808 ≤ r.id ∧ r.id ≤ 9223372036854775807
 p0 : -9223372036854775808 ≤ r.p0 ∧ r.p0 ≤ 9223372036854775807
 p1 : -9223372036854775808 ≤ r.p1 ∧ r.p1 ≤ 9223372036854775807
 p2 : -9223372036854775808 ≤ r.p2 ∧ r.p2 ≤ 9223372036854775807
 v0 : -9223372036854775808 ≤ r.v0 ∧ r.v0 ≤ 9223372036854775807
 v1 : -9223372036854775808 ≤ r.v1 ∧ r.v1 ≤ 9223372036854775807
 v2 : -9223372036854775808 ≤ r.v2 ∧ r.v2 ≤ 9223372036854775807
theorem zAB.wf.facts {r:zAB} (h:r.wf):(-9223372036854775808 ≤ r.k ∧ r.k ≤ 9223372036854775807) ∧ (-9223372036854775808 ≤ r.id ∧ r.id ≤ 9223372036854775807) ∧ (-9223372036854775808 ≤ r.p0 ∧ r.p0 ≤ 9223372036854775807) ∧ (-9223372036854775808 ≤ r.p1 ∧ r.p1 ≤ 9223372036854775807) ∧ (-9223372036854775808 ≤ r.p2 ∧ r.p2 ≤ 9223372036854775807) ∧
 (-9223372036854775808 ≤ r.v0 ∧ r.v0 ≤ 9223372036854775807) ∧ (-9223372036854775808 ≤ r.v1 ∧ r.v1 ≤ 9223372036854775807) ∧ (-9223372036854775808 ≤ r.v2 ∧ r.v2 ≤ 9223372036854775807):=⟨h.k,h.id,h.p0,h.p1,h.p2,h.v0,h.v1,h.v2⟩
def zJ3 (r:zAB):List Value:=[.int .i64 r.k,.int .i64 r.id,.int .i64 r.p0,.int .i64 r.p1,.int .i64 r.p2,.int .i64 r.v0,.int .i64 r.v1,.int .i64 r.v2,.int .u16 ((r.a.toNat:Nat):Int)]
def zAB.num (r:zAB):Nat → Int
 | 0=>r.p0
 | 1=>r.p1
 | 2=>r.p2
 | 3=>r.v0
 | 4=>r.v1
 | _=>r.v2
def zBK (r:zAB):Bool:=r.p0 == 0 && r.p1 == 0 && r.p2 == 0 && r.v0 == 0 && r.v1 == 0 && r.v2 == 0 && (((r.a.toNat:Nat):Int) == 0)
def zAc (r:zAB):Nat:=if r.k < 0 ∨ 3 < r.k then 11 else if r.id < 0 ∨ 65535 < r.id then 3 else if r.k = 1 ∧ zBK r = true ∨ r.k = 2 ∧ zBK r = false then 2 else 0
theorem zMj (r:zAB):zAO [.int .i64 r.k,.int .i64 r.id,.int .i64 r.p0,.int .i64 r.p1,.int .i64 r.p2,.int .i64 r.v0,.int .i64 r.v1,.int .i64 r.v2,.int .u16 ((r.a.toNat:Nat):Int)] [.int .i64 r.k,.int .i64 r.id,.int .i64 0,.int .i64 0,.int .i64 0,.int .i64 0,.int .i64 0,.int .i64 0,.int .u16 0] = zBK r:=by
 simp [zAO,vEq,zBK,Bool.and_assoc]
theorem zRL (r:zAB):zAc r ≤ 11:=by
 unfold zAc;repeat' split
 all_goals omega
theorem zNq {r:zAB} (h:zAc r = 0):0 ≤ r.k ∧ r.k ≤ 3 ∧ 0 ≤ r.id ∧ r.id ≤ 65535:=by
 unfold zAc at h
 split at h
 · cases h
 · split at h
   · cases h
   · omega
def zDY (x:Int):List zP:=zCS (zGc x).toNat
theorem zAH (x:Int):(zDY x).length ≤ 10 ∧ 1 ≤ (zDY x).length:=by
 have:=zC1 (zGc x).toNat
 have:=zC8 (zGc x).toNat
 unfold zDY
 simp only [zBY] at *
 omega
def zBc (r:zAB):List zP:=zDY r.p0 ++ zDY r.p1 ++ zDY r.p2 ++ zDY r.v0 ++ zDY r.v1 ++ zDY r.v2 ++ zCS r.a.toNat
def zAx (r:zAB):Nat → BitVec 8
 | 0=>0#8
 | i + 1=>if r.num i = 0 then zAx r i else zAx r i ||| (1#8 <<< i)
def zAd (r:zAB):Nat → List zP
 | 0=>[]
 | i + 1=>if r.num i = 0 then zAd r i else zAd r i ++ zDY (r.num i)
def zCb (r:zAB):BitVec 8:=if r.a = 0#16 then zAx r 6 else zAx r 6 ||| 64#8
def zGz (r:zAB):List zP:=if r.a = 0#16 then zAd r 6 else zAd r 6 ++ zCS r.a.toNat
def zBL (r:zAB):List zP:=zCb r :: zGz r
def zEB (r:zAB):List zP:=if r.k = 1 then zBL r else if r.k = 2 then [] else zBc r
def zAy (r:zAB) (last:Int):Nat:=if zAc r ≠ 0 then zAc r else if last < -1 ∨ 65535 < last then 3 else if r.id ≤ last then 10 else 0
def zAW (r:zAB) (last:Int):List zP:=zCS (BitVec.ofInt 64 (r.id - last - 1)).toNat ++ [BitVec.ofInt 8 r.k]
def zCk (r:zAB) (last:Int):List zP:=if zAy r last ≠ 0 then [] else zAW r last ++ zEB r
theorem zNP {r:zAB} {i:Nat} (h:r.num i = 0):zAx r (i + 1) = zAx r i:=by simp [zAx,h]
theorem zNc {r:zAB} {i:Nat} (h:r.num i ≠ 0):zAx r (i + 1) = zAx r i ||| (1#8 <<< i):=by simp [zAx,h]
theorem zHc {r:zAB} {i:Nat} (h:r.num i = 0):zAd r (i + 1) = zAd r i:=by simp [zAd,h]
theorem zHi {r:zAB} {i:Nat} (h:r.num i ≠ 0):zAd r (i + 1) = zAd r i ++ zDY (r.num i):=by simp [zAd,h]
theorem zBW (r:zAB):∀ i,(zAd r i).length ≤ 10 * i:=by
 intro i
 induction i with
 | zero=>simp [zAd]
 | succ i ih =>
   unfold zAd
   have:=zAH (r.num i)
   split
   · omega
   · simp;omega
theorem zER (n:Nat):(zCS n).length ≤ 10:=by have:=zC1 n;simpa [zBY] using this
theorem zIF (r:zAB) (last:Int):(zCk r last).length ≤ 100:=by
 unfold zCk
 split
 · simp
 · have h1:=zER (BitVec.ofInt 64 (r.id - last - 1)).toNat
   have h2:=zER r.a.toNat
   have h3:=zBW r 6
   have n0:=zAH r.p0
   have n1:=zAH r.p1
   have n2:=zAH r.p2
   have n3:=zAH r.v0
   have n4:=zAH r.v1
   have n5:=zAH r.v2
   unfold zAW zEB
   split
   · unfold zBL zGz
     split <;> simp only [List.length_append,List.length_cons,List.length_nil] <;> omega
   · split
     · simp only [List.length_append,List.length_cons,List.length_nil];omega
     · unfold zBc;simp only [List.length_append,List.length_cons,List.length_nil];omega
theorem zN9 {bs l:List zP} {x:zP} {m:Nat} (h:bs.length = m):(bs ++ x :: l).getD m 0 = x:=by
 subst h
 simp [List.getD_eq_getElem?_getD]
theorem zPn {bs l:List zP} {x y:zP} {m:Nat} (h:bs.length = m):(bs ++ x :: l).set m y = bs ++ y :: l:=by
 subst h
 simp
theorem zTY (a:BitVec 16):(a.setWidth 64).toNat = a.toNat:=by
 rw [BitVec.toNat_setWidth]
 have:=a.isLt
 omega
theorem zPv {a:BitVec 16} (h:((a.toNat:Nat):Int) = 0):a = 0#16:=BitVec.eq_of_toNat_eq (by simpa using h)
theorem zZN {a:BitVec 16} (h:((a.toNat:Nat):Int) ≠ 0):a ≠ 0#16:=fun e=>h (by subst e;rfl)
theorem zBb {r:zAB} (h:((r.a.toNat:Nat):Int) = 0):zBL r = zAx r 6 :: zAd r 6:=by
 unfold zBL zCb zGz
 rw [if_pos (zPv h),if_pos (zPv h)]
theorem zBd {r:zAB} (h:((r.a.toNat:Nat):Int) ≠ 0):zBL r = (zAx r 6 ||| 64#8) :: (zAd r 6 ++ zCS r.a.toNat):=by
 unfold zBL zCb zGz
 rw [if_neg (zZN h),if_neg (zZN h)]
theorem zIn (r:zAB):(zBL r).length ≤ 71:=by
 have h2:=zER r.a.toNat
 have h3:=zBW r 6
 unfold zBL zGz
 split <;> simp only [List.length_append,List.length_cons] <;> omega
theorem zJl (r:zAB):(zBc r).length ≤ 70:=by
 have h2:=zER r.a.toNat
 have n0:=zAH r.p0
 have n1:=zAH r.p1
 have n2:=zAH r.p2
 have n3:=zAH r.v0
 have n4:=zAH r.v1
 have n5:=zAH r.v2
 unfold zBc
 simp only [List.length_append]
 omega
theorem zDh {r:zAB} {last:Int} (h:zAy r last ≠ 0):zCk r last = []:=by unfold zCk;rw [if_pos h]
theorem zBJ {r:zAB} {last:Int} (h:zAy r last = 0) (hk:r.k = 0 ∨ r.k = 3):zCk r last = zAW r last ++ zBc r:=by
 unfold zCk zEB
 rw [if_neg (by omega),if_neg (by omega),if_neg (by omega)]
theorem zAQ {r:zAB} {last:Int} (h:zAy r last = 0) (hk:r.k = 1):zCk r last = zAW r last ++ zBL r:=by
 unfold zCk zEB
 rw [if_neg (by omega),if_pos hk]
theorem zAz {r:zAB} {last:Int} (h:zAy r last = 0) (hk:r.k = 2):zCk r last = zAW r last:=by
 unfold zCk zEB
 rw [if_neg (by omega),if_neg (by omega),if_pos hk,List.append_nil]
theorem zCF {r:zAB} {last:Int} (h:zAc r ≠ 0):zAy r last = zAc r:=by unfold zAy;rw [if_pos h]
theorem zCH {r:zAB} {last:Int} (h:zAc r = 0) (h2:last < -1 ∨ 65535 < last):zAy r last = 3:=by unfold zAy;rw [if_neg (by omega),if_pos h2]
theorem zCD {r:zAB} {last:Int} (h:zAc r = 0) (h2:¬ (last < -1 ∨ 65535 < last)) (h3:r.id ≤ last):zAy r last = 10:=by unfold zAy;rw [if_neg (by omega),if_neg h2,if_pos h3]
theorem zCt {r:zAB} {last:Int} (h:zAc r = 0) (h2:¬ (last < -1 ∨ 65535 < last)) (h3:¬ r.id ≤ last):zAy r last = 0:=by unfold zAy;rw [if_neg (by omega),if_neg h2,if_neg h3]
theorem zIr (r:zAB) (last:Int):(zAW r last).length ≤ 11:=by
 have h1:=zER (BitVec.ofInt 64 (r.id - last - 1)).toNat
 unfold zAW
 simp only [List.length_append,List.length_cons,List.length_nil]
 omega
theorem zC9 {r:zAB} {last:Int} (h:zAy r last = 0):0 ≤ r.id ∧ r.id ≤ 65535 ∧ -1 ≤ last ∧ last < r.id:=by
 unfold zAy at h
 split at h
 · omega
 · rename_i h0
   have h1:=zNq (r:=r) (by omega)
   split at h
   · cases h
   · split at h
     · cases h
     · omega
end Go.Sx

set_option linter.unusedVariables false
set_option linter.unusedSimpArgs false
namespace Go.Sx
def zVr (m:BitVec 8):Nat → BitVec 8
 | 0=>m
 | i + 1=>zVr m i / 2#8
theorem zQ7 (m:BitVec 8):∀ i,zVr m i = m >>> i
 | 0=>by simp [zVr]
 | i + 1=>by
   unfold zVr
   rw [zQ7 m i]
   apply BitVec.eq_of_toNat_eq
   rw [BitVec.toNat_udiv,BitVec.toNat_ushiftRight,BitVec.toNat_ushiftRight,Nat.shiftRight_succ]
   rfl
def zBo (m:BitVec 8) (i:Nat):Bool:=((zVr m i).toNat % 2) == 1
def upI (bs:List zP) (m:BitVec 8) (i:Nat) (R:Rs):Int × Rs :=
 if zBo m i = true then ((zAA bs R).1,if (zAA bs R).1 = 0 then zBj 7 (zAA bs R).2 else (zAA bs R).2) else (0,R)
def upS (bs:List zP) (m:BitVec 8) (R:Rs):Nat → Rs
 | 0=>R
 | i + 1=>(upI bs m i (upS bs m R i)).2
def upX (bs:List zP) (m:BitVec 8) (R:Rs) (i:Nat):Int:=(upI bs m i (upS bs m R i)).1
def upA (bs:List zP) (m:BitVec 8) (R:Rs):BitVec 16 × Rs :=
 if zBo m 6 = true then (((zO bs 65535#64 R).1).setWidth 16,if (zO bs 65535#64 R).1 = 0#64 then zBj 7 (zO bs 65535#64 R).2 else (zO bs 65535#64 R).2) else (0#16,R)
def zA1 (bs:List zP) (k id:Int) (R:Rs):zAB × Rs :=
 let q:=zH bs R
 if q.1.toNat = 0 ∨ 127 < q.1.toNat then (⟨k,id,0,0,0,0,0,0,0#16⟩,zBj 7 q.2)
 else (⟨k,id,upX bs q.1 q.2 0,upX bs q.1 q.2 1,upX bs q.1 q.2 2,upX bs q.1 q.2 3,upX bs q.1 q.2 4,upX bs q.1 q.2 5,(upA bs q.1 (upS bs q.1 q.2 6)).1⟩,(upA bs q.1 (upS bs q.1 q.2 6)).2)
def nS (bs:List zP) (R:Rs):Nat → Rs
 | 0=>R
 | i + 1=>(zAA bs (nS bs R i)).2
def nX (bs:List zP) (R:Rs) (i:Nat):Int:=(zAA bs (nS bs R i)).1
def zCJ (bs:List zP) (k id:Int) (R:Rs):zAB × Rs :=
 (⟨k,id,nX bs R 0,nX bs R 1,nX bs R 2,nX bs R 3,nX bs R 4,nX bs R 5,((zO bs 65535#64 (nS bs R 6)).1).setWidth 16⟩,(zO bs 65535#64 (nS bs R 6)).2)
def zBA (bs:List zP) (k id:Int) (R:Rs):zAB × Rs :=
 if k = 0 ∨ k = 3 then zCJ bs k id R else if k = 1 then zA1 bs k id R else if k = 2 then (⟨k,id,0,0,0,0,0,0,0#16⟩,R) else (⟨k,id,0,0,0,0,0,0,0#16⟩,zBj 11 R)
def zPa : zAB:=⟨0,0,0,0,0,0,0,0,0#16⟩
def zQH (bs:List zP) (last:Int) (R:Rs):BitVec 64 × Rs:=zO bs (BitVec.ofInt 64 (65534 - last)) R
def zEZ (bs:List zP) (last:Int) (R:Rs):zAB × Rs :=
 zBA bs (((zH bs (zQH bs last R).2).1.toNat:Nat):Int) (last + 1 + (((zQH bs last R).1.toNat:Nat):Int)) (zH bs (zQH bs last R).2).2
def zAG (bs:List zP) (last:Int) (R:Rs):zAB × Nat × Rs :=
 if last < -1 ∨ 65535 < last then (zPa,3,R) else if last = 65535 then (zPa,(zBj 10 R).e,zBj 10 R)
 else if (zEZ bs last R).2.e ≠ 0 then (zPa,(zEZ bs last R).2.e,(zEZ bs last R).2) else ((zEZ bs last R).1,0,(zEZ bs last R).2)
def zbg (r:zAB):Nat → List zP
 | 0=>[]
 | i + 1=>zbg r i ++ zDY (r.num i)
theorem zG7 (r:zAB):zbg r 6 = zDY r.p0 ++ zDY r.p1 ++ zDY r.p2 ++ zDY r.v0 ++ zDY r.v1 ++ zDY r.v2:=rfl
def upQ (bs:List zP) (m:BitVec 8) (R:Rs) (i j:Nat):Int:=if j < i then upX bs m R j else 0
section
variable {bs : List zP} {m : BitVec 8} {R : Rs} {i : Nat} {p q z : Value}
theorem zZH (h:upX bs m R i = 0) (j:Nat):upQ bs m R i j = upQ bs m R (i + 1) j:=by
 unfold upQ
 by_cases h1:j < i
 · rw [if_pos h1,if_pos (by omega)]
 · by_cases h2:j = i
   · subst h2;rw [if_neg h1,if_pos (by omega),h]
   · rw [if_neg h1,if_neg (by omega)]
theorem six {i:Nat} (h:i < 6):i = 0 ∨ i = 1 ∨ i = 2 ∨ i = 3 ∨ i = 4 ∨ i = 5:=by omega
theorem zWm (h:i < 6) : [p,q,zI (upQ bs m R i 0),zI (upQ bs m R i 1),zI (upQ bs m R i 2),zI (upQ bs m R i 3),zI (upQ bs m R i 4),zI (upQ bs m R i 5),z].set (2 + i) (zI (upX bs m R i)) = [p,q,zI (upQ bs m R (i + 1) 0),zI (upQ bs m R (i + 1) 1),zI (upQ bs m R (i + 1) 2),zI (upQ bs m R (i + 1) 3),zI (upQ bs m R (i + 1) 4),zI (upQ bs m R (i + 1) 5),z]:=by
 rcases six h with rfl | rfl | rfl | rfl | rfl | rfl <;> simp [upQ]
theorem zWC (h:i < 6) : [p,q,zI (upQ bs m R (i + 1) 0),zI (upQ bs m R (i + 1) 1),zI (upQ bs m R (i + 1) 2),zI (upQ bs m R (i + 1) 3),zI (upQ bs m R (i + 1) 4),zI (upQ bs m R (i + 1) 5),z][2 + i]? = some (zI (upX bs m R i)):=by
 rcases six h with rfl | rfl | rfl | rfl | rfl | rfl <;> simp [upQ]
theorem zVo {g:Nat} (h:i < 6) : [pt g 2,pt g 3,pt g 4,pt g 5,pt g 6,pt g 7][((i:Nat):Int).toNat]? = some (pt g (2 + i)):=by
 rcases six h with rfl | rfl | rfl | rfl | rfl | rfl <;> rfl
theorem zYR {r:zAB} (hw:r.wf) (h:i < 6) : -9223372036854775808 ≤ r.num i ∧ r.num i ≤ 9223372036854775807:=by
 rcases six h with rfl | rfl | rfl | rfl | rfl | rfl
 · exact hw.p0
 · exact hw.p1
 · exact hw.p2
 · exact hw.v0
 · exact hw.v1
 · exact hw.v2
theorem zST {r:zAB} (h:i < 6) : [p,q,zI r.p0,zI r.p1,zI r.p2,zI r.v0,zI r.v1,zI r.v2,z][2 + i]? = some (zI (r.num i)):=by
 rcases six h with rfl | rfl | rfl | rfl | rfl | rfl <;> rfl
end
theorem zUC {m:BitVec 8} {i:Nat}:zBo m i = true ↔ (zVr m i).toNat % 2 = 1:=by unfold zBo;simp
theorem zVP (m:BitVec 8) (i:Nat):((m >>> i) &&& 1#8).toNat = (zVr m i).toNat % 2:=by
 rw [BitVec.toNat_and,show (1#8).toNat = 1 from rfl,Nat.and_one_is_mod,zQ7]
theorem zWx {m:BitVec 8} {i:Nat} (h:((((m >>> i) &&& 1#8).toNat:Nat):Int) = 0):zBo m i = false:=by
 rw [zVP] at h
 unfold zBo
 rw [show (zVr m i).toNat % 2 = 0 by omega]
 rfl
theorem zWb {m:BitVec 8} {i:Nat} (h:((((m >>> i) &&& 1#8).toNat:Nat):Int) ≠ 0):zBo m i = true:=by
 rw [zVP] at h
 rw [zUC]
 omega
theorem zZ0 (m:BitVec 8):(m &&& 64#8).toNat = 0 ↔ zBo m 6 = false:=by
 have key:∀ m:BitVec 8,(m &&& 64#8).toNat = 0 ↔ zBo m 6 = false:=by decide +kernel
 exact key m
theorem zS9 {m:BitVec 8} (h:(((m &&& 64#8).toNat:Nat):Int) = 0):zBo m 6 = false:=(zZ0 m).1 (by omega)
theorem zTt {m:BitVec 8} (h:(((m &&& 64#8).toNat:Nat):Int) ≠ 0):zBo m 6 = true:=by
 cases hb:zBo m 6 with
 | true=>rfl
 | false=>exact absurd ((zZ0 m).2 hb) (by omega)
theorem zXV {bs:List zP} {m:BitVec 8} {R:Rs} (h:zBo m 6 = false):upA bs m R = (0#16,R):=by unfold upA;rw [if_neg (by rw [h];decide)]
theorem zYk {bs:List zP} {m:BitVec 8} {R:Rs} (h:zBo m 6 = true) (h2:(zO bs 65535#64 R).1.toNat = 0):upA bs m R = ((zO bs 65535#64 R).1.setWidth 16,zBj 7 (zO bs 65535#64 R).2):=by
 unfold upA
 rw [if_pos h,if_pos (BitVec.eq_of_toNat_eq h2)]
theorem zXu {bs:List zP} {m:BitVec 8} {R:Rs} (h:zBo m 6 = true) (h2:(zO bs 65535#64 R).1.toNat ≠ 0):upA bs m R = ((zO bs 65535#64 R).1.setWidth 16,(zO bs 65535#64 R).2):=by
 unfold upA
 rw [if_pos h,if_neg (fun e=>h2 (by rw [e];rfl))]
theorem zbj {X:BitVec 64} (h:X.toNat ≤ 65535):(X.setWidth 16).toNat = X.toNat:=by
 rw [BitVec.toNat_setWidth]
 omega
theorem zH0 {X:BitVec 64} (h:X.toNat ≤ 65535):X.toInt = ((X.toNat:Nat):Int):=by
 rw [BitVec.toInt_eq_toNat_cond,if_pos (by omega)]
theorem zD9 {x:Int} (h:0 ≤ x) (h2:x ≤ 9223372036854775807):(((BitVec.ofInt 64 x).toNat:Nat):Int) = x:=by
 rw [BitVec.toNat_ofInt]
 omega
theorem zbp {bs:List zP} {m:BitVec 8} {R:Rs} {i:Nat} (h:zBo m i = true) (h2:(zAA bs (upS bs m R i)).1 = 0):upS bs m R (i + 1) = zBj 7 (zAA bs (upS bs m R i)).2:=by
 show (upI _ _ _ _).2 = _
 unfold upI
 rw [if_pos h]
 dsimp only
 rw [if_pos h2]
theorem zbk {bs:List zP} {m:BitVec 8} {R:Rs} {i:Nat} (h:zBo m i = true) (h2:(zAA bs (upS bs m R i)).1 ≠ 0):upS bs m R (i + 1) = (zAA bs (upS bs m R i)).2:=by
 show (upI _ _ _ _).2 = _
 unfold upI
 rw [if_pos h]
 dsimp only
 rw [if_neg h2]
theorem zbL {bs:List zP} {m:BitVec 8} {R:Rs} {i:Nat} (h:zBo m i = true):upX bs m R i = (zAA bs (upS bs m R i)).1:=by
 unfold upX upI
 rw [if_pos h]
theorem zbR {bs:List zP} {m:BitVec 8} {R:Rs} {i:Nat} (h:zBo m i = false):upS bs m R (i + 1) = upS bs m R i:=by
 show (upI _ _ _ _).2 = _
 unfold upI
 rw [if_neg (by rw [h];decide)]
theorem za4 {bs:List zP} {m:BitVec 8} {R:Rs} {i:Nat} (h:zBo m i = false):upX bs m R i = 0:=by
 unfold upX upI
 rw [if_neg (by rw [h];decide)]
theorem zaZ {bs:List zP} {m:BitVec 8} {i:Nat} {R:Rs} (h:R.p ≤ bs.length):(upI bs m i R).2.p ≤ bs.length ∧ R.p ≤ (upI bs m i R).2.p ∧ (upI bs m i R).2.p ≤ R.p + 10:=by
 unfold upI
 have h1:=zDG h
 split
 · dsimp only
   split
   · have:=zBX (e:=7) h1.1;omega
   · omega
 · dsimp only;omega
theorem zKu {bs:List zP} {m:BitVec 8} {R:Rs} (h:R.p ≤ bs.length):∀ i,(upS bs m R i).p ≤ bs.length ∧ R.p ≤ (upS bs m R i).p ∧ (upS bs m R i).p ≤ R.p + 10 * i
 | 0=>by simp [upS,h]
 | i + 1=>by
   have h1:=zKu h i (m:=m)
   have h2:=zaZ (m:=m) (i:=i) h1.1
   show (upI _ _ _ _).2.p ≤ _ ∧ _ ≤ (upI _ _ _ _).2.p ∧ (upI _ _ _ _).2.p ≤ _
   omega
theorem zZQ {bs:List zP} {R:Rs} (h:R.p ≤ bs.length):∀ i,(nS bs R i).p ≤ bs.length ∧ R.p ≤ (nS bs R i).p ∧ (nS bs R i).p ≤ R.p + 10 * i
 | 0=>by simp [nS,h]
 | i + 1=>by
   have h1:=zZQ h i
   have h2:=zDG h1.1
   show (zAA _ _).2.p ≤ _ ∧ _ ≤ (zAA _ _).2.p ∧ (zAA _ _).2.p ≤ _
   omega
theorem zZb {bs:List zP} {m:BitVec 8} {R:Rs} (h:R.p ≤ bs.length):(upA bs m R).2.p ≤ bs.length ∧ R.p ≤ (upA bs m R).2.p:=by
 unfold upA
 have h1:=zA0 (X:=65535#64) h
 split
 · dsimp only
   split
   · have:=zBX (e:=7) h1.1;omega
   · omega
 · dsimp only;omega
section
variable {bs : List zP} {m : BitVec 8} {R : Rs} {i : Nat}
end
theorem zKn {bs:List zP} {k id:Int} {R:Rs} (h:R.p ≤ bs.length):(zA1 bs k id R).2.p ≤ bs.length ∧ R.p ≤ (zA1 bs k id R).2.p:=by
 have h1:=zD8 h
 have h2:=zKu (m:=(zH bs R).1) h1.1 6
 have h3:=zZb (m:=(zH bs R).1) h2.1
 have h4:=zBX (e:=7) h1.1
 unfold zA1
 dsimp only
 split <;> (dsimp only;omega)
theorem zKe {bs:List zP} {k id:Int} {R:Rs} (h:R.p ≤ bs.length):(zCJ bs k id R).2.p ≤ bs.length ∧ R.p ≤ (zCJ bs k id R).2.p:=by
 have h2:=zZQ h 6
 have h3:=zA0 (X:=65535#64) h2.1
 unfold zCJ
 dsimp only;omega
theorem zQZ {bs:List zP} {k id:Int} {R:Rs} (h:R.p ≤ bs.length):(zBA bs k id R).2.p ≤ bs.length ∧ R.p ≤ (zBA bs k id R).2.p:=by
 unfold zBA
 split
 · exact zKe h
 · split
   · exact zKn h
   · split
     · dsimp only;omega
     · have:=zBX (e:=11) h;dsimp only;omega
theorem zM5 {bs:List zP} {last:Int} {R:Rs} (h:R.p ≤ bs.length):(zAG bs last R).2.2.p ≤ bs.length ∧ R.p ≤ (zAG bs last R).2.2.p:=by
 have h1:(zQH bs last R).2.p ≤ bs.length ∧ R.p ≤ (zQH bs last R).2.p:=by
   have:=zA0 (X:=BitVec.ofInt 64 (65534 - last)) h
   unfold zQH
   omega
 have h2:=zD8 h1.1
 have h3:(zEZ bs last R).2.p ≤ bs.length ∧ (zH bs (zQH bs last R).2).2.p ≤ (zEZ bs last R).2.p:=zQZ h2.1
 have h4:=zBX (e:=10) h
 unfold zAG
 repeat' split
 all_goals (dsimp only;omega)
theorem zMC {α β:Type} {p x:α × β} (h:p = x):p = (x.1,x.2):=h
theorem zF8 (bs:List zP) (last:Int) (R:Rs):zEZ bs last R = zBA bs (((zH bs (zO bs (BitVec.ofInt 64 (65534 - last)) R).2).1.toNat:Nat):Int) (last + 1 + (((zO bs (BitVec.ofInt 64 (65534 - last)) R).1.toNat:Nat):Int)) (zH bs (zO bs (BitVec.ofInt 64 (65534 - last)) R).2).2:=rfl
theorem zGg {bs:List zP} {k id:Int} {R:Rs} (h:k = 0 ∨ k = 3):zBA bs k id R = zCJ bs k id R:=by unfold zBA;rw [if_pos h]
theorem zIe {bs:List zP} {k id:Int} {R:Rs} (h:k = 1):zBA bs k id R = zA1 bs k id R:=by unfold zBA;rw [if_neg (by omega),if_pos h]
theorem zH3 {bs:List zP} {k id:Int} {R:Rs} (h:k = 2):zBA bs k id R = (⟨k,id,0,0,0,0,0,0,0#16⟩,R):=by unfold zBA;rw [if_neg (by omega),if_neg (by omega),if_pos h]
theorem zPO {bs:List zP} {k id:Int} {R:Rs} (h:¬ (k = 0 ∨ k = 1 ∨ k = 2 ∨ k = 3)):zBA bs k id R = (⟨k,id,0,0,0,0,0,0,0#16⟩,zBj 11 R):=by unfold zBA;rw [if_neg (by omega),if_neg (by omega),if_neg (by omega)]
theorem zEj {bs:List zP} {last:Int} {R:Rs} (h:last < -1 ∨ 65535 < last):zAG bs last R = (zPa,3,R):=by unfold zAG;rw [if_pos h]
theorem zEp {bs:List zP} {last:Int} {R:Rs} (h:last = 65535):zAG bs last R = (zPa,(zBj 10 R).e,zBj 10 R):=by unfold zAG;rw [if_neg (by omega),if_pos h]
theorem zD1 {bs:List zP} {last:Int} {R RR:Rs} {rr:zAB} (h:¬ (last < -1 ∨ 65535 < last)) (h2:last ≠ 65535) (hr:zEZ bs last R = (rr,RR)) (he:RR.e ≠ 0):zAG bs last R = (zPa,RR.e,RR):=by
 unfold zAG
 rw [if_neg h,if_neg h2,hr,if_pos he]
theorem zE3 {bs:List zP} {last:Int} {R RR:Rs} {rr:zAB} (h:¬ (last < -1 ∨ 65535 < last)) (h2:last ≠ 65535) (hr:zEZ bs last R = (rr,RR)) (he:RR.e = 0):zAG bs last R = (rr,0,RR):=by
 unfold zAG
 rw [if_neg h,if_neg h2,hr,if_neg (by simpa using he)]
theorem zJP {bs:List zP} {k id:Int} {R:Rs} (h:(zH bs R).1.toNat = 0 ∨ 127 < (zH bs R).1.toNat):zA1 bs k id R = (⟨k,id,0,0,0,0,0,0,0#16⟩,zBj 7 (zH bs R).2):=by
 unfold zA1
 dsimp only
 rw [if_pos h]
theorem zIj {bs:List zP} {k id:Int} {R:Rs} {A:BitVec 16} {T:Rs} (h:¬ ((zH bs R).1.toNat = 0 ∨ 127 < (zH bs R).1.toNat)) (hA:upA bs (zH bs R).1 (upS bs (zH bs R).1 (zH bs R).2 6) = (A,T)):zA1 bs k id R = (⟨k,id,upX bs (zH bs R).1 (zH bs R).2 0,upX bs (zH bs R).1 (zH bs R).2 1,upX bs (zH bs R).1 (zH bs R).2 2,upX bs (zH bs R).1 (zH bs R).2 3,upX bs (zH bs R).1 (zH bs R).2 4,upX bs (zH bs R).1 (zH bs R).2 5,A⟩,T):=by
 unfold zA1
 dsimp only
 rw [if_neg h,hA]
theorem zRG {bs:List zP} {last:Int} {R:Rs} (h:R.p ≤ bs.length) (h1 : -1 ≤ last) (h2:last < 65535):(((zO bs (BitVec.ofInt 64 (65534 - last)) R).1.toNat:Nat):Int) ≤ 65534 - last:=by
 have h3:=(zA0 (X:=BitVec.ofInt 64 (65534 - last)) h).2.2.2.1
 have h4:=zD9 (x:=65534 - last) (by omega) (by omega)
 omega
theorem zVN {bs:List zP} {last:Int} {R:Rs} (h:R.p ≤ bs.length) (h1 : -1 ≤ last) (h2:last < 65535):(zO bs (BitVec.ofInt 64 (65534 - last)) R).1.toInt = (((zO bs (BitVec.ofInt 64 (65534 - last)) R).1.toNat:Nat):Int):=by
 have:=zRG h h1 h2
 by_cases h5:65534 - last ≤ 65535
 · exact zH0 (by omega)
 · exact zH0 (by omega)
end Go.Sx

set_option linter.unusedVariables false
set_option linter.unusedSimpArgs false
namespace Go.Sx
structure zX where
 id:Int
 p0:Int
 p1:Int
 p2:Int
 v0:Int
 v1:Int
 v2:Int
 a:BitVec 16
 g:BitVec 8
instance : Inhabited zX:=⟨⟨0,0,0,0,0,0,0,0#16,0#8⟩⟩
structure zX.wf (r:zX):Prop where
 id : -9223372036854775808 ≤ r.id ∧ r.id ≤ 9223372036854775807
 p0 : -9223372036854775808 ≤ r.p0 ∧ r.p0 ≤ 9223372036854775807
 p1 : -9223372036854775808 ≤ r.p1 ∧ r.p1 ≤ 9223372036854775807
 p2 : -9223372036854775808 ≤ r.p2 ∧ r.p2 ≤ 9223372036854775807
 v0 : -9223372036854775808 ≤ r.v0 ∧ r.v0 ≤ 9223372036854775807
 v1 : -9223372036854775808 ≤ r.v1 ∧ r.v1 ≤ 9223372036854775807
 v2 : -9223372036854775808 ≤ r.v2 ∧ r.v2 ≤ 9223372036854775807
def zBR (r:zX):List Value:=[.int .i64 r.id,.int .i64 r.p0,.int .i64 r.p1,.int .i64 r.p2,.int .i64 r.v0,.int .i64 r.v1,.int .i64 r.v2,.int .u16 ((r.a.toNat:Nat):Int),.int .u8 ((r.g.toNat:Nat):Int)]
theorem zBv (r:zX):(zBR r).length = 9:=rfl
def zDB : zX:=⟨0,0,0,0,0,0,0,0#16,0#8⟩
def zS (a:zX) (r:zAB):zX × Nat :=
 if zAc r ≠ 0 then (zDB,zAc r) else if r.id ≠ a.id ∨ r.k = 0 ∨ r.k = 2 then (zDB,15)
 else if r.k = 3 then (⟨a.id,r.p0,r.p1,r.p2,r.v0,r.v1,r.v2,r.a,a.g + 1#8⟩,0)
 else (⟨a.id,IntKind.i64.wrap (a.p0 + r.p0),IntKind.i64.wrap (a.p1 + r.p1),IntKind.i64.wrap (a.p2 + r.p2),IntKind.i64.wrap (a.v0 + r.v0),IntKind.i64.wrap (a.v1 + r.v1),IntKind.i64.wrap (a.v2 + r.v2),a.a + r.a,a.g⟩,0)
theorem zC7 (x:Int) : -9223372036854775808 ≤ IntKind.i64.wrap x ∧ IntKind.i64.wrap x ≤ 9223372036854775807:=by
 simp only [IntKind.wrap_i64]
 omega
theorem zCE {a:zX} {r:zAB} (h:zAc r ≠ 0):zS a r = (zDB,zAc r):=by unfold zS;rw [if_pos h]
theorem zCY {a:zX} {r:zAB} (h:zAc r = 0) (h2:r.id ≠ a.id ∨ r.k = 0 ∨ r.k = 2):zS a r = (zDB,15):=by unfold zS;rw [if_neg (by omega),if_pos h2]
theorem zBu {a:zX} {r:zAB} (h:zAc r = 0) (h2:¬ (r.id ≠ a.id ∨ r.k = 0 ∨ r.k = 2)) (h3:r.k = 3):zS a r = (⟨a.id,r.p0,r.p1,r.p2,r.v0,r.v1,r.v2,r.a,a.g + 1#8⟩,0):=by
 unfold zS
 rw [if_neg (by omega),if_neg h2,if_pos h3]
theorem zBr {a:zX} {r:zAB} (h:zAc r = 0) (h2:¬ (r.id ≠ a.id ∨ r.k = 0 ∨ r.k = 2)) (h3:r.k ≠ 3):zS a r = (⟨a.id,IntKind.i64.wrap (a.p0 + r.p0),IntKind.i64.wrap (a.p1 + r.p1),IntKind.i64.wrap (a.p2 + r.p2),IntKind.i64.wrap (a.v0 + r.v0),IntKind.i64.wrap (a.v1 + r.v1),IntKind.i64.wrap (a.v2 + r.v2),a.a + r.a,a.g⟩,0):=by
 unfold zS
 rw [if_neg (by omega),if_neg h2,if_neg h3]
end Go.Sx

set_option linter.unusedVariables false
set_option linter.unusedSimpArgs false
namespace Go.Sx
structure zbi where
 k:Int
 m:BitVec 64
 e:BitVec 8
instance : Inhabited zbi:=⟨⟨0,0#64,0#8⟩⟩
theorem zAX {α:Type} {g:α → List Value} {size:Nat} (hg:∀ a,(g a).length = size):∀ (l:List α),(l.flatMap g).length = l.length * size
 | []=>by simp
 | a :: l=>by rw [List.flatMap_cons,List.length_append,hg,zAX hg l,List.length_cons,Nat.add_mul];omega
theorem zAh {α:Type} [Inhabited α] {g:α → List Value} {size:Nat} (hg:∀ a,(g a).length = size):∀ (l:List α) (j:Nat),j < l.length → ((l.flatMap g).drop (j * size)).take size = g (l.getD j default)
 | [],j,h=>by simp at h
 | a :: l,0,_=>by
   simp only [Nat.zero_mul,List.drop_zero,List.flatMap_cons,List.getD_cons_zero]
   rw [← hg a,List.take_left']
   rfl
 | a :: l,j + 1,h=>by
   have ih:=zAh hg l j (by simpa using h)
   rw [List.flatMap_cons,show (j + 1) * size = (g a).length + j * size by rw [hg,Nat.add_mul];omega,← List.drop_drop,List.drop_left',List.getD_cons_succ]
   · exact ih
   · rfl
theorem zDU {α:Type} [Inhabited α] {g:α → List Value} {size:Nat} (hg:∀ a,(g a).length = size) (l:List α) (j o:Nat) (h:j < l.length) (ho:o < size):(l.flatMap g)[j * size + o]? = (g (l.getD j default))[o]?:=by
 rw [← zAh hg l j h,List.getElem?_take,if_pos ho,List.getElem?_drop]
def Tr (bs:List zP) (u:Value) (p:Nat) (u':Value) (p':Nat):Prop:=∀ w' T,Rd w' T u 1 (bs.length - p) (zD (bs.drop p)) → Rd w' T u' 1 (bs.length - p') (zD (bs.drop p'))
theorem Tr.refl {bs:List zP} {u:Value} {p:Nat}:Tr bs u p u p:=fun _ _ h=>h
theorem Tr.trans {bs:List zP} {u u2 u3:Value} {p p2 p3:Nat} (h:Tr bs u p u2 p2) (h2:Tr bs u2 p2 u3 p3):Tr bs u p u3 p3:=fun w T h0=>h2 w T (h w T h0)
theorem zRi {b:List zP} (h:b.length = 0):(zCR b).2.2 = 5:=by rw [zCM h]
theorem zYi {bs:List zP} {k:Nat} (h:(zCR (bs.drop k)).2.2 ≠ 5):¬ bs.length ≤ k:=fun h2=>h (zRi (by simp only [List.length_drop];omega))
theorem zPD {bs:List zP} {X:BitVec 64} {R:Rs} (h:R.e = 0) (h1:(zCR (bs.drop R.p)).2.2 = 0) (h2:(zCR (bs.drop R.p)).1.toNat ≤ X.toNat):zO bs X R = ((zCR (bs.drop R.p)).1,⟨R.p + (zCR (bs.drop R.p)).2.1,0⟩):=by
 have hu:zIu (bs.drop R.p) X = 0:=by unfold zIu;rw [if_neg (fun h=>by omega)];exact h1
 exact zDF h (zYi (by omega)) hu
theorem zNO {bs:List zP} {R:Rs} (h:R.p ≤ bs.length):(zAA bs (zAA bs (zAA bs R).2).2).2.p ≤ bs.length ∧ R.p ≤ (zAA bs (zAA bs (zAA bs R).2).2).2.p ∧ (zAA bs (zAA bs (zAA bs R).2).2).2.p ≤ R.p + 30:=zWJ h
end Go.Sx

set_option linter.unusedVariables false
set_option linter.unusedSimpArgs false
namespace Go.Sx
structure zDI {α:Type} (bs:List zP) (c:List zP) (f:Rs → α × Rs) (v:α):Prop where
 stay:∀ R,R.e = 6 → (f R).2.e = 6
 good:∀ R n rest,R.e = 0 → R.p ≤ bs.length → bs.drop R.p = (c ++ rest).take n → c.length ≤ n → f R = (v,⟨R.p + c.length,0⟩)
 short:∀ R n rest,R.e = 0 → R.p ≤ bs.length → bs.drop R.p = (c ++ rest).take n → n < c.length → (f R).2.e = 6
theorem zMI {bs c rest:List zP} {p n:Nat} (h:bs.drop p = (c ++ rest).take n) (hn:c.length ≤ n) (hp:p ≤ bs.length):bs.drop (p + c.length) = rest.take (n - c.length) ∧ p + c.length ≤ bs.length:=by
 have h1:bs.drop (p + c.length) = (bs.drop p).drop c.length:=by rw [List.drop_drop]
 have h2:=congrArg List.length h
 simp only [List.length_drop,List.length_take,List.length_append] at h2
 refine ⟨?_,by omega⟩
 rw [h1,h,List.take_append,List.drop_append_of_le_length (by rw [List.length_take];omega),List.take_of_length_le hn,List.drop_length,List.nil_append]
theorem zDI.bind {α β:Type} {bs c d:List zP} {f:Rs → α × Rs} {g:α → Rs → β × Rs} {v:α} {u:β} (hf:zDI bs c f v) (hs:∀ x R,R.e = 6 → (g x R).2.e = 6) (hg:zDI bs d (g v) u):zDI bs (c ++ d) (fun R=>g (f R).1 (f R).2) u:=by
 refine ⟨fun R h=>hs _ _ (hf.stay R h),fun R n rest h0 hp hd hn=>?_,fun R n rest h0 hp hd hn=>?_⟩
 · rw [List.append_assoc] at hd
   rw [List.length_append] at hn
   have h1:=hf.good R n _ h0 hp hd (by omega)
   obtain ⟨h2,h3⟩:=zMI hd (by omega) hp
   rw [h1]
   dsimp only
   rw [hg.good ⟨R.p + c.length,0⟩ (n - c.length) rest rfl h3 h2 (by omega),List.length_append]
   dsimp only
   rw [Nat.add_assoc]
 · rw [List.append_assoc] at hd
   rw [List.length_append] at hn
   by_cases hc:c.length ≤ n
   · have h1:=hf.good R n _ h0 hp hd hc
     obtain ⟨h2,h3⟩:=zMI hd hc hp
     rw [h1]
     exact hg.short ⟨R.p + c.length,0⟩ (n - c.length) rest rfl h3 h2 (by omega)
   · exact hs _ _ (hf.short R n _ h0 hp hd (by omega))
theorem zDI.pure {α:Type} {bs:List zP} (v:α):zDI bs [] (fun R=>(v,R)) v:=by
 refine ⟨fun R h=>h,fun R n rest h0 hp hd hn=>?_,fun R n rest h0 hp hd hn=>?_⟩
 · cases R;simp at h0;subst h0;rfl
 · simp at hn
theorem zCc {bs:List zP} {X L:BitVec 64} (h:X.toNat ≤ L.toNat):zDI bs (zCS X.toNat) (zO bs L) X:=by
 have hvp:=zC8 X.toNat
 have hl:(zCS X.toNat).length = zBY X.toNat:=rfl
 refine ⟨fun R h=>by rw [zCp (by omega)];exact h,fun R n rest h0 hp hd hn=>?_,fun R n rest h0 hp hd hn=>?_⟩
 · have hd2:bs.drop R.p = zCS X.toNat ++ rest.take (n - (zCS X.toNat).length):=by rw [hd,List.take_append,List.take_of_length_le hn]
   have hg:=zVD X (rest.take (n - (zCS X.toNat).length))
   rw [← hd2] at hg
   rw [zPD h0 (by rw [hg]) (by rw [hg];exact h),hg]
   rfl
 · have hd2:bs.drop R.p = (zCS X.toNat).take n:=by rw [hd,List.take_append,show n - (zCS X.toNat).length = 0 by omega];simp
   by_cases h1:bs.length ≤ R.p
   · rw [zCa h0 h1]
   · have hn0 : 1 ≤ n := by
       have:=congrArg List.length hd2
       simp only [List.length_drop,List.length_take] at this
       omega
     have hg:=zRy X n hn0 (by omega)
     rw [← hd2] at hg
     have hu:zIu (bs.drop R.p) L = 6:=by unfold zIu;rw [hg];simp
     rw [zDt h0 h1 (by omega),hu]
theorem zGq {bs:List zP} {c:zP}:zDI bs [c] (zH bs) c:=by
 refine ⟨fun R h=>by rw [zDp (by omega)];exact h,fun R n rest h0 hp hd hn=>?_,fun R n rest h0 hp hd hn=>?_⟩
 · have hd2 : bs.drop R.p = c :: rest.take (n - 1) := by
     rw [hd]
     simp only [List.length_singleton] at hn
     rw [show n = (n - 1) + 1 by omega]
     simp
   have hl:=congrArg List.length hd2
   simp only [List.length_drop,List.length_cons] at hl
   have hg:bs.getD R.p 0 = c:=by
     have:=congrArg (fun l:List zP=>l.getD 0 0) hd2
     simpa [List.getD_eq_getElem?_getD] using this
   rw [zD3 h0 (by omega),hg]
   rfl
 · simp only [List.length_singleton] at hn
   have hn0:n = 0:=by omega
   subst hn0
   have hl:=congrArg List.length hd
   simp at hl
   rw [zDQ h0 (by omega)]
theorem zCn {bs:List zP} {x:Int} (h : -9223372036854775808 ≤ x ∧ x ≤ 9223372036854775807):zDI bs (zDY x) (zAA bs) x:=by
 have ht:=zCc (bs:=bs) (X:=zGc x) (L:=18446744073709551615#64) (by have:=(zGc x).isLt;have h2:(18446744073709551615#64).toNat = 18446744073709551615:=rfl;omega)
 refine ⟨fun R h=>ht.stay R h,fun R n rest h0 hp hd hn=>?_,fun R n rest h0 hp hd hn=>ht.short R n rest h0 hp hd hn⟩
 have:=ht.good R n rest h0 hp hd hn
 unfold zAA
 rw [this,zYI x h]
 rfl
theorem zD2 {e:Nat} {R:Rs} (h:R.e = 6):(zBj e R).e = 6:=by unfold zBj;rw [if_neg (by omega)];exact h
theorem zBs {bs:List zP} {m:BitVec 8} {i:Nat} {R:Rs} (h:R.e = 6):(upI bs m i R).2.e = 6:=by
 have h1:=(zLG (bs:=bs) (R:=R) (by omega)).2.1
 unfold upI
 split
 · dsimp only
   split
   · exact zD2 (by omega)
   · omega
 · exact h
theorem zEb {bs:List zP} {m:BitVec 8} {R:Rs} (h:R.e = 6):(upA bs m R).2.e = 6:=by
 have h1:=(zJQ (bs:=bs) (X:=65535#64) (R:=R) (by omega)).2.1
 unfold upA
 split
 · dsimp only
   split
   · exact zD2 (by omega)
   · omega
 · exact h
def upC (r:zAB) (i:Nat):List zP:=if r.num i = 0 then [] else zDY (r.num i)
theorem zUm {bs:List zP} {m:BitVec 8} {r:zAB} {i:Nat} (hm:zBo m i = true ↔ r.num i ≠ 0) (h : -9223372036854775808 ≤ r.num i ∧ r.num i ≤ 9223372036854775807):zDI bs (upC r i) (upI bs m i) (r.num i):=by
 by_cases h0:r.num i = 0
 · have hb : zBo m i = false := by
     cases hb:zBo m i with
     | false=>rfl
     | true=>exact absurd h0 (hm.1 hb)
   have:upI bs m i = fun R=>(0,R):=by
     funext R
     unfold upI
     rw [if_neg (by rw [hb];decide)]
   rw [this,upC,if_pos h0,h0]
   exact zDI.pure 0
 · have hb:=hm.2 h0
   have ht:=zCn (bs:=bs) h
   rw [upC,if_neg h0]
   refine ⟨fun R h=>zBs h,fun R n rest h1 hp hd hn=>?_,fun R n rest h1 hp hd hn=>?_⟩
   · have:=ht.good R n rest h1 hp hd hn
     unfold upI
     rw [if_pos hb,this]
     dsimp only
     rw [if_neg h0]
   · have:=ht.short R n rest h1 hp hd hn
     unfold upI
     rw [if_pos hb]
     dsimp only
     split
     · exact zD2 this
     · exact this
theorem zXL {bs:List zP} {a:BitVec 16}:zDI bs (zCS a.toNat) (fun R=>((zO bs 65535#64 R).1.setWidth 16,(zO bs 65535#64 R).2)) a:=by
 have ht:=zCc (bs:=bs) (X:=a.setWidth 64) (L:=65535#64) (by rw [zTY];have:=a.isLt;have h2:(65535#64).toNat = 65535:=rfl;omega)
 rw [zTY] at ht
 refine ⟨fun R h=>ht.stay R h,fun R n rest h0 hp hd hn=>?_,fun R n rest h0 hp hd hn=>ht.short R n rest h0 hp hd hn⟩
 have:=ht.good R n rest h0 hp hd hn
 rw [this]
 dsimp only
 congr 1
 apply BitVec.eq_of_toNat_eq
 simp
theorem zSk {bs:List zP} {m:BitVec 8} {a:BitVec 16} (hm:zBo m 6 = true ↔ a ≠ 0#16):zDI bs (if a = 0#16 then [] else zCS a.toNat) (upA bs m) a:=by
 by_cases h0:a = 0#16
 · have hb : zBo m 6 = false := by
     cases hb:zBo m 6 with
     | false=>rfl
     | true=>exact absurd h0 (hm.1 hb)
   have:upA bs m = fun R=>(0#16,R):=by
     funext R
     unfold upA
     rw [if_neg (by rw [hb];decide)]
   rw [this,if_pos h0,h0]
   exact zDI.pure _
 · have hb:=hm.2 h0
   rw [if_neg h0]
   have ht:=zCc (bs:=bs) (X:=a.setWidth 64) (L:=65535#64) (by rw [zTY];have:=a.isLt;have h2:(65535#64).toNat = 65535:=rfl;omega)
   rw [zTY] at ht
   have hne:a.setWidth 64 ≠ 0#64:=fun e=>h0 (BitVec.eq_of_toNat_eq (by rw [← zTY a,e];rfl))
   refine ⟨fun R h=>zEb h,fun R n rest h1 hp hd hn=>?_,fun R n rest h1 hp hd hn=>?_⟩
   · have:=ht.good R n rest h1 hp hd hn
     unfold upA
     rw [if_pos hb,this]
     dsimp only
     rw [if_neg hne]
     congr 1
     apply BitVec.eq_of_toNat_eq
     simp
   · have:=ht.short R n rest h1 hp hd hn
     unfold upA
     rw [if_pos hb]
     dsimp only
     split
     · exact zD2 this
     · exact this
/-! ### The mask -/
def zEz (b0 b1 b2 b3 b4 b5 b6:Bool):BitVec 8 :=
 let m0:=bif b0 then 0#8 ||| (1#8 <<< 0) else 0#8
 let m1:=bif b1 then m0 ||| (1#8 <<< 1) else m0
 let m2:=bif b2 then m1 ||| (1#8 <<< 2) else m1
 let m3:=bif b3 then m2 ||| (1#8 <<< 3) else m2
 let m4:=bif b4 then m3 ||| (1#8 <<< 4) else m3
 let m5:=bif b5 then m4 ||| (1#8 <<< 5) else m4
 bif b6 then m5 ||| 64#8 else m5
theorem zYD {α:Type} {p:Prop} [Decidable p] (x y:α):(if p then x else y) = bif decide (¬ p) then y else x:=by by_cases h:p <;> simp [h]
theorem zYp (r:zAB):zCb r = zEz (decide (r.p0 ≠ 0)) (decide (r.p1 ≠ 0)) (decide (r.p2 ≠ 0)) (decide (r.v0 ≠ 0)) (decide (r.v1 ≠ 0)) (decide (r.v2 ≠ 0)) (decide (r.a ≠ 0#16)):=by
 simp only [zCb,zAx,zAB.num,zEz,zYD]
theorem zMw : ∀ b0 b1 b2 b3 b4 b5 b6:Bool,zBo (zEz b0 b1 b2 b3 b4 b5 b6) 0 = b0 ∧ zBo (zEz b0 b1 b2 b3 b4 b5 b6) 1 = b1 ∧ zBo (zEz b0 b1 b2 b3 b4 b5 b6) 2 = b2 ∧ zBo (zEz b0 b1 b2 b3 b4 b5 b6) 3 = b3 ∧ zBo (zEz b0 b1 b2 b3 b4 b5 b6) 4 = b4 ∧ zBo (zEz b0 b1 b2 b3 b4 b5 b6) 5 = b5 ∧ zBo (zEz b0 b1 b2 b3 b4 b5 b6) 6 = b6 ∧ (zEz b0 b1 b2 b3 b4 b5 b6).toNat ≤ 127 ∧ ((zEz b0 b1 b2 b3 b4 b5 b6).toNat = 0 → b0 = false ∧ b1 = false ∧ b2 = false ∧ b3 = false ∧ b4 = false ∧ b5 = false ∧ b6 = false):=by
 intro b0 b1 b2 b3 b4 b5 b6
 cases b0 <;> cases b1 <;> cases b2 <;> cases b3 <;> cases b4 <;> cases b5 <;> cases b6 <;> exact ⟨by decide,by decide,by decide,by decide,by decide,by decide,by decide,by decide,by decide⟩
theorem zP3 (r:zAB):(∀ i,i < 6 → (zBo (zCb r) i = true ↔ r.num i ≠ 0)) ∧ (zBo (zCb r) 6 = true ↔ r.a ≠ 0#16) ∧ (zCb r).toNat ≤ 127 ∧ ((zCb r).toNat = 0 → zBK r = true):=by
 have h:=zMw (decide (r.p0 ≠ 0)) (decide (r.p1 ≠ 0)) (decide (r.p2 ≠ 0)) (decide (r.v0 ≠ 0)) (decide (r.v1 ≠ 0)) (decide (r.v2 ≠ 0)) (decide (r.a ≠ 0#16))
 rw [← zYp] at h
 obtain ⟨h0,h1,h2,h3,h4,h5,h6,h7,h8⟩:=h
 refine ⟨fun i hi=>?_,by rw [h6,decide_eq_true_iff],h7,fun hz=>?_⟩
 · match i,hi with
   | 0,_=>rw [h0,decide_eq_true_iff];rfl
   | 1,_=>rw [h1,decide_eq_true_iff];rfl
   | 2,_=>rw [h2,decide_eq_true_iff];rfl
   | 3,_=>rw [h3,decide_eq_true_iff];rfl
   | 4,_=>rw [h4,decide_eq_true_iff];rfl
   | 5,_=>rw [h5,decide_eq_true_iff];rfl
 · obtain ⟨e0,e1,e2,e3,e4,e5,e6⟩:=h8 hz
   simp only [decide_eq_false_iff_not,ne_eq,Decidable.not_not] at e0 e1 e2 e3 e4 e5 e6
   simp [zBK,e0,e1,e2,e3,e4,e5,e6]
/-! ### The bodies -/
theorem zAB.wf.num {r:zAB} (h:r.wf) (i:Nat) : -9223372036854775808 ≤ r.num i ∧ r.num i ≤ 9223372036854775807:=by
 match i with
 | 0=>exact h.p0
 | 1=>exact h.p1
 | 2=>exact h.p2
 | 3=>exact h.v0
 | 4=>exact h.v1
 | _ + 5=>exact h.v2
theorem zAr {bs:List zP} {R:Rs} (h:R.e = 6):(zAA bs R).2.e = 6:=by have:=(zLG (bs:=bs) (R:=R) (by omega)).2.1;omega
theorem zDJ {bs:List zP} {X:BitVec 64} {R:Rs} (h:R.e = 6):(zO bs X R).2.e = 6:=by have:=(zJQ (bs:=bs) (X:=X) (R:=R) (by omega)).2.1;omega
theorem zKs {bs:List zP} {R:Rs} (h:R.e = 6):(zH bs R).2.e = 6:=by have:=(zOw (bs:=bs) (R:=R) (by omega)).2.1;omega
theorem zRR {bs:List zP} {r:zAB} (hw:r.wf):zDI bs (zBc r) (zCJ bs r.k r.id) r:=by
 have h6:=(zXL (bs:=bs) (a:=r.a)).bind (g:=fun x R=>((⟨r.k,r.id,r.p0,r.p1,r.p2,r.v0,r.v1,r.v2,x⟩ : zAB),R)) (fun x R h=>h) (zDI.pure _)
 have h5:=(zCn (bs:=bs) hw.v2).bind (g:=fun x R=>((⟨r.k,r.id,r.p0,r.p1,r.p2,r.v0,r.v1,x,(zO bs 65535#64 R).1.setWidth 16⟩ : zAB),(zO bs 65535#64 R).2)) (fun x R h=>zDJ h) h6
 have h4:=(zCn (bs:=bs) hw.v1).bind (g:=fun x R=>((⟨r.k,r.id,r.p0,r.p1,r.p2,r.v0,x,(zAA bs R).1,(zO bs 65535#64 (zAA bs R).2).1.setWidth 16⟩ : zAB),(zO bs 65535#64 (zAA bs R).2).2)) (fun x R h=>zDJ (zAr h)) h5
 have h3:=(zCn (bs:=bs) hw.v0).bind (g:=fun x R=>((⟨r.k,r.id,r.p0,r.p1,r.p2,x,(zAA bs R).1,(zAA bs (zAA bs R).2).1,(zO bs 65535#64 (zAA bs (zAA bs R).2).2).1.setWidth 16⟩ : zAB),(zO bs 65535#64 (zAA bs (zAA bs R).2).2).2)) (fun x R h=>zDJ (zAr (zAr h))) h4
 have h2:=(zCn (bs:=bs) hw.p2).bind (g:=fun x R=>((⟨r.k,r.id,r.p0,r.p1,x,(zAA bs R).1,(zAA bs (zAA bs R).2).1,(zAA bs (zAA bs (zAA bs R).2).2).1,(zO bs 65535#64 (zAA bs (zAA bs (zAA bs R).2).2).2).1.setWidth 16⟩ : zAB),(zO bs 65535#64 (zAA bs (zAA bs (zAA bs R).2).2).2).2)) (fun x R h=>zDJ (zAr (zAr (zAr h)))) h3
 have h1:=(zCn (bs:=bs) hw.p1).bind (g:=fun x R=>((⟨r.k,r.id,r.p0,x,(zAA bs R).1,(zAA bs (zAA bs R).2).1,(zAA bs (zAA bs (zAA bs R).2).2).1,(zAA bs (zAA bs (zAA bs (zAA bs R).2).2).2).1,(zO bs 65535#64 (zAA bs (zAA bs (zAA bs (zAA bs R).2).2).2).2).1.setWidth 16⟩ : zAB),(zO bs 65535#64 (zAA bs (zAA bs (zAA bs (zAA bs R).2).2).2).2).2)) (fun x R h=>zDJ (zAr (zAr (zAr (zAr h))))) h2
 have h0:=(zCn (bs:=bs) hw.p0).bind (g:=fun x R=>((⟨r.k,r.id,x,(zAA bs R).1,(zAA bs (zAA bs R).2).1,(zAA bs (zAA bs (zAA bs R).2).2).1,(zAA bs (zAA bs (zAA bs (zAA bs R).2).2).2).1,(zAA bs (zAA bs (zAA bs (zAA bs (zAA bs R).2).2).2).2).1,(zO bs 65535#64 (zAA bs (zAA bs (zAA bs (zAA bs (zAA bs R).2).2).2).2).2).1.setWidth 16⟩ : zAB),(zO bs 65535#64 (zAA bs (zAA bs (zAA bs (zAA bs (zAA bs R).2).2).2).2).2).2)) (fun x R h=>zDJ (zAr (zAr (zAr (zAr (zAr h)))))) h1
 have e:zCJ bs r.k r.id = fun R=>((⟨r.k,r.id,(zAA bs R).1,(zAA bs (zAA bs R).2).1,(zAA bs (zAA bs (zAA bs R).2).2).1,(zAA bs (zAA bs (zAA bs (zAA bs R).2).2).2).1,(zAA bs (zAA bs (zAA bs (zAA bs (zAA bs R).2).2).2).2).1,(zAA bs (zAA bs (zAA bs (zAA bs (zAA bs (zAA bs R).2).2).2).2).2).1,(zO bs 65535#64 (zAA bs (zAA bs (zAA bs (zAA bs (zAA bs (zAA bs R).2).2).2).2).2).2).1.setWidth 16⟩ : zAB),(zO bs 65535#64 (zAA bs (zAA bs (zAA bs (zAA bs (zAA bs (zAA bs R).2).2).2).2).2).2).2):=by
   funext R
   simp only [zCJ,nX,nS]
 rw [e]
 simpa [zBc,List.append_assoc] using h0
end Go.Sx

set_option linter.unusedVariables false
set_option linter.unusedSimpArgs false
namespace Go.Sx
theorem zP9 {bs:List zP} {m:BitVec 8} {R:Rs} (h:R.e = 6):∀ i,(upS bs m R i).e = 6
 | 0=>h
 | i + 1=>zBs (zP9 h i)
def zMK (bs:List zP) (k id:Int) (m:BitVec 8) (R:Rs):zAB × Rs :=
 if m.toNat = 0 ∨ 127 < m.toNat then (⟨k,id,0,0,0,0,0,0,0#16⟩,zBj 7 R)
 else (⟨k,id,upX bs m R 0,upX bs m R 1,upX bs m R 2,upX bs m R 3,upX bs m R 4,upX bs m R 5,(upA bs m (upS bs m R 6)).1⟩,(upA bs m (upS bs m R 6)).2)
theorem zJS (bs:List zP) (k id:Int):zA1 bs k id = fun R=>zMK bs k id (zH bs R).1 (zH bs R).2:=by
 funext R
 unfold zA1 zMK
 rfl
theorem zLv {bs:List zP} {k id:Int} {m:BitVec 8} {R:Rs} (h:R.e = 6):(zMK bs k id m R).2.e = 6:=by
 unfold zMK
 split
 · exact zD2 h
 · exact zEb (zP9 h 6)
theorem zKK (r:zAB):zAd r 6 = upC r 0 ++ (upC r 1 ++ (upC r 2 ++ (upC r 3 ++ (upC r 4 ++ upC r 5)))):=by
 have h:∀ i,zAd r (i + 1) = zAd r i ++ upC r i:=fun i=>by
   show (if r.num i = 0 then _ else _) = _
   unfold upC
   split <;> simp
 rw [h 5,h 4,h 3,h 2,h 1,h 0]
 simp [zAd]
def upW (r:zAB):List zP:=if r.a = 0#16 then [] else zCS r.a.toNat
theorem zPC (r:zAB):zBL r = [zCb r] ++ (upC r 0 ++ (upC r 1 ++ (upC r 2 ++ (upC r 3 ++ (upC r 4 ++ (upC r 5 ++ upW r)))))):=by
 unfold zBL zGz upW
 rw [zKK]
 split <;> simp
theorem zPI {bs:List zP} {r:zAB} (hw:r.wf) (hne:zBK r = false):zDI bs (zBL r) (zA1 bs r.k r.id) r:=by
 obtain ⟨hb,h6,h7,h8⟩:=zP3 r
 have hm0:¬ ((zCb r).toNat = 0 ∨ 127 < (zCb r).toNat):=by
   rintro (h | h)
   · rw [h8 h] at hne;cases hne
   · omega
 rw [zPC,zJS]
 refine zGq.bind (g:=fun m R=>zMK bs r.k r.id m R) (fun x R h=>zLv h) ?_
 generalize hM:zCb r = m at *
 have e:(fun R=>zMK bs r.k r.id m R) = fun R=>(⟨r.k,r.id,(upI bs m 0 R).1,(upI bs m 1 (upI bs m 0 R).2).1,(upI bs m 2 (upI bs m 1 (upI bs m 0 R).2).2).1,(upI bs m 3 (upI bs m 2 (upI bs m 1 (upI bs m 0 R).2).2).2).1,(upI bs m 4 (upI bs m 3 (upI bs m 2 (upI bs m 1 (upI bs m 0 R).2).2).2).2).1,(upI bs m 5 (upI bs m 4 (upI bs m 3 (upI bs m 2 (upI bs m 1 (upI bs m 0 R).2).2).2).2).2).1,(upA bs m (upI bs m 5 (upI bs m 4 (upI bs m 3 (upI bs m 2 (upI bs m 1 (upI bs m 0 R).2).2).2).2).2).2).1⟩,(upA bs m (upI bs m 5 (upI bs m 4 (upI bs m 3 (upI bs m 2 (upI bs m 1 (upI bs m 0 R).2).2).2).2).2).2).2):=by
   funext R
   unfold zMK
   rw [if_neg hm0]
   rfl
 rw [e]
 have hn:=fun i hi=>zUm (bs:=bs) (hb i hi) (hw.num i)
 have q6:=(zSk (bs:=bs) h6).bind (g:=fun x R=>((⟨r.k,r.id,r.p0,r.p1,r.p2,r.v0,r.v1,r.v2,x⟩ : zAB),R)) (fun x R h=>h) (zDI.pure _)
 have q5:=(hn 5 (by omega)).bind (g:=fun x R=>((⟨r.k,r.id,r.p0,r.p1,r.p2,r.v0,r.v1,x,(upA bs m R).1⟩ : zAB),(upA bs m R).2)) (fun x R h=>zEb h) q6
 have q4:=(hn 4 (by omega)).bind (g:=fun x R=>((⟨r.k,r.id,r.p0,r.p1,r.p2,r.v0,x,(upI bs m 5 R).1,(upA bs m (upI bs m 5 R).2).1⟩ : zAB),(upA bs m (upI bs m 5 R).2).2)) (fun x R h=>zEb (zBs h)) q5
 have q3:=(hn 3 (by omega)).bind (g:=fun x R=>((⟨r.k,r.id,r.p0,r.p1,r.p2,x,(upI bs m 4 R).1,(upI bs m 5 (upI bs m 4 R).2).1,(upA bs m (upI bs m 5 (upI bs m 4 R).2).2).1⟩ : zAB),(upA bs m (upI bs m 5 (upI bs m 4 R).2).2).2)) (fun x R h=>zEb (zBs (zBs h))) q4
 have q2:=(hn 2 (by omega)).bind (g:=fun x R=>((⟨r.k,r.id,r.p0,r.p1,x,(upI bs m 3 R).1,(upI bs m 4 (upI bs m 3 R).2).1,(upI bs m 5 (upI bs m 4 (upI bs m 3 R).2).2).1,(upA bs m (upI bs m 5 (upI bs m 4 (upI bs m 3 R).2).2).2).1⟩ : zAB),(upA bs m (upI bs m 5 (upI bs m 4 (upI bs m 3 R).2).2).2).2)) (fun x R h=>zEb (zBs (zBs (zBs h)))) q3
 have q1:=(hn 1 (by omega)).bind (g:=fun x R=>((⟨r.k,r.id,r.p0,x,(upI bs m 2 R).1,(upI bs m 3 (upI bs m 2 R).2).1,(upI bs m 4 (upI bs m 3 (upI bs m 2 R).2).2).1,(upI bs m 5 (upI bs m 4 (upI bs m 3 (upI bs m 2 R).2).2).2).1,(upA bs m (upI bs m 5 (upI bs m 4 (upI bs m 3 (upI bs m 2 R).2).2).2).2).1⟩ : zAB),(upA bs m (upI bs m 5 (upI bs m 4 (upI bs m 3 (upI bs m 2 R).2).2).2).2).2)) (fun x R h=>zEb (zBs (zBs (zBs (zBs h))))) q2
 have q0:=(hn 0 (by omega)).bind (g:=fun x R=>((⟨r.k,r.id,x,(upI bs m 1 R).1,(upI bs m 2 (upI bs m 1 R).2).1,(upI bs m 3 (upI bs m 2 (upI bs m 1 R).2).2).1,(upI bs m 4 (upI bs m 3 (upI bs m 2 (upI bs m 1 R).2).2).2).1,(upI bs m 5 (upI bs m 4 (upI bs m 3 (upI bs m 2 (upI bs m 1 R).2).2).2).2).1,(upA bs m (upI bs m 5 (upI bs m 4 (upI bs m 3 (upI bs m 2 (upI bs m 1 R).2).2).2).2).2).1⟩ : zAB),(upA bs m (upI bs m 5 (upI bs m 4 (upI bs m 3 (upI bs m 2 (upI bs m 1 R).2).2).2).2).2).2)) (fun x R h=>zEb (zBs (zBs (zBs (zBs (zBs h)))))) q1
 simpa [upW,zAB.num] using q0
theorem zPA {r:zAB} (h:zBK r = true):r = ⟨r.k,r.id,0,0,0,0,0,0,0#16⟩:=by
 simp only [zBK,Bool.and_eq_true,beq_iff_eq] at h
 obtain ⟨⟨⟨⟨⟨⟨e0,e1⟩,e2⟩,e3⟩,e4⟩,e5⟩,e6⟩:=h
 have e6':=zPv e6
 cases r
 simp_all
theorem zEq {r:zAB} (h:zAc r = 0):0 ≤ r.k ∧ r.k ≤ 3 ∧ 0 ≤ r.id ∧ r.id ≤ 65535 ∧ (r.k = 1 → zBK r = false) ∧ (r.k = 2 → zBK r = true):=by
 unfold zAc at h
 split at h
 · cases h
 · split at h
   · cases h
   · split at h
     · cases h
     · rename_i h1 h2 h3
       refine ⟨by omega,by omega,by omega,by omega,fun hk=>?_,fun hk=>?_⟩
       · cases he:zBK r with
         | false=>rfl
         | true=>exact absurd (.inl ⟨hk,he⟩) h3
       · cases he:zBK r with
         | true=>rfl
         | false=>exact absurd (.inr ⟨hk,he⟩) h3
theorem zQ5 {bs:List zP} {k id:Int} {R:Rs} (h:R.e = 6):(zCJ bs k id R).2.e = 6:=by
 simp only [zCJ,nS]
 exact zDJ (zAr (zAr (zAr (zAr (zAr (zAr h))))))
theorem zJR {bs:List zP} {k id:Int} {R:Rs} (h:R.e = 6):(zBA bs k id R).2.e = 6:=by
 unfold zBA
 split
 · exact zQ5 h
 · split
   · rw [zJS];exact zLv (zKs h)
   · split
     · exact h
     · exact zD2 h
theorem zO3 {bs:List zP} {r:zAB} (hw:r.wf) (hc:zAc r = 0):zDI bs (zEB r) (zBA bs r.k r.id) r:=by
 obtain ⟨h1,h2,h3,h4,h5,h6⟩:=zEq hc
 by_cases hk1:r.k = 1
 · have:zBA bs r.k r.id = zA1 bs r.k r.id:=by funext R;exact zIe hk1
   rw [this,zEB,if_pos hk1]
   exact zPI hw (h5 hk1)
 · by_cases hk2:r.k = 2
   · have : zBA bs r.k r.id = fun R => (r, R) := by
       funext R
       rw [zH3 hk2]
       exact congrArg (·,R) (zPA (h6 hk2)).symm
     rw [this,zEB,if_neg hk1,if_pos hk2]
     exact zDI.pure r
   · have:zBA bs r.k r.id = zCJ bs r.k r.id:=by funext R;exact zGg (by omega)
     rw [this,zEB,if_neg hk1,if_neg hk2]
     exact zRR hw
theorem zHC {r:zAB} {last:Int} (h:zAy r last = 0):zAc r = 0 ∧ -1 ≤ last ∧ last ≤ 65535 ∧ last < r.id:=by
 unfold zAy at h
 split at h
 · omega
 · split at h
   · cases h
   · split at h
     · cases h
     · omega
theorem zQV {bs:List zP} {r:zAB} {last:Int} (hw:r.wf) (he:zAy r last = 0):zDI bs (zCk r last) (zEZ bs last) r:=by
 obtain ⟨hc,h1,h2,h3⟩:=zHC he
 obtain ⟨c1,c2,c3,c4,_,_⟩:=zEq hc
 have hX:(((BitVec.ofInt 64 (r.id - last - 1)).toNat:Nat):Int) = r.id - last - 1:=zD9 (by omega) (by omega)
 have hL:(((BitVec.ofInt 64 (65534 - last)).toNat:Nat):Int) = 65534 - last:=zD9 (by omega) (by omega)
 have hk:(((BitVec.ofInt 8 r.k).toNat:Nat):Int) = r.k:=by rw [BitVec.toNat_ofInt];omega
 rw [zCk,if_neg (by omega),zAW,List.append_assoc]
 have q2:=zO3 (bs:=bs) hw hc
 have e2:zBA bs r.k r.id = (fun (x:zP) R=>zBA bs (((x.toNat:Nat):Int)) (last + 1 + (((BitVec.ofInt 64 (r.id - last - 1)).toNat:Nat):Int)) R) (BitVec.ofInt 8 r.k):=by
   funext R
   dsimp only
   rw [hk,hX,show last + 1 + (r.id - last - 1) = r.id by omega]
 rw [e2] at q2
 have q1:=(zGq (bs:=bs) (c:=BitVec.ofInt 8 r.k)).bind (g:=fun (x:zP) R=>zBA bs ((x.toNat:Nat):Int) (last + 1 + (((BitVec.ofInt 64 (r.id - last - 1)).toNat:Nat):Int)) R) (fun x R h=>zJR h) q2
 have q0:=(zCc (bs:=bs) (X:=BitVec.ofInt 64 (r.id - last - 1)) (L:=BitVec.ofInt 64 (65534 - last)) (by omega)).bind
   (g:=fun X R=>zBA bs (((zH bs R).1.toNat:Nat):Int) (last + 1 + ((X.toNat:Nat):Int)) (zH bs R).2) (fun x R h=>zJR (zKs h)) q1
 exact q0
theorem zXD {bs rest : List zP} {r : zAB} {last : Int} {p n : Nat} (hw : r.wf) (he : zAy r last = 0) (hp : p ≤ bs.length) (hd : bs.drop p = (zCk r last ++ rest).take n) :
   ((zCk r last).length ≤ n → zAG bs last ⟨p,0⟩ = (r,0,⟨p + (zCk r last).length,0⟩)) ∧ (n < (zCk r last).length → (zAG bs last ⟨p,0⟩).1 = zPa ∧ (zAG bs last ⟨p,0⟩).2.1 = 6):=by
 have ht:=zQV (bs:=bs) hw he
 obtain ⟨hc,h1,h2,h3⟩:=zHC he
 obtain ⟨c1,c2,c3,c4,_,_⟩:=zEq hc
 refine ⟨fun hn=>?_,fun hn=>?_⟩
 · exact zE3 (by omega) (by omega) (ht.good ⟨p,0⟩ n rest rfl hp hd hn) rfl
 · have h6:=ht.short ⟨p,0⟩ n rest rfl hp hd hn
   rw [zD1 (rr:=(zEZ bs last ⟨p,0⟩).1) (RR:=(zEZ bs last ⟨p,0⟩).2) (by omega) (by omega) rfl (by omega)]
   exact ⟨rfl,h6⟩
theorem zW0 {bs rest:List zP} {r:zAB} {last:Int} {p:Nat} (hw:r.wf) (he:zAy r last = 0) (hp:p ≤ bs.length) (hd:bs.drop p = zCk r last ++ rest):zAG bs last ⟨p,0⟩ = (r,0,⟨p + (zCk r last).length,0⟩) :=
 (zXD (n:=(zCk r last ++ rest).length) hw he hp (by rw [List.take_length];exact hd)).1 (by simp)
/-! ### The other way about -/
end Go.Sx

set_option linter.unusedVariables false
set_option linter.unusedSimpArgs false
namespace Go.Sx
theorem zJa {bs:List zP} {R:Rs} (i:Nat) : -9223372036854775808 ≤ nX bs R i ∧ nX bs R i ≤ 9223372036854775807:=by
 unfold nX zAA
 exact zGF _
theorem zVI {bs:List zP} {k id:Int} {R:Rs} (hk : -9223372036854775808 ≤ k ∧ k ≤ 9223372036854775807) (hi : -9223372036854775808 ≤ id ∧ id ≤ 9223372036854775807):(zCJ bs k id R).1.wf:=by
 unfold zCJ
 dsimp only
 exact ⟨hk,hi,zJa (bs:=bs) (R:=R) 0,zJa (bs:=bs) (R:=R) 1,zJa (bs:=bs) (R:=R) 2,zJa (bs:=bs) (R:=R) 3,zJa (bs:=bs) (R:=R) 4,zJa (bs:=bs) (R:=R) 5⟩
theorem zGo {bs:List zP} {m:BitVec 8} {R:Rs} (i:Nat) : -9223372036854775808 ≤ upX bs m R i ∧ upX bs m R i ≤ 9223372036854775807:=by
 unfold upX upI
 split
 · unfold zAA
   exact zGF _
 · show -9223372036854775808 ≤ (0:Int) ∧ (0:Int) ≤ 9223372036854775807
   decide
theorem zQz {bs:List zP} {k id:Int} {R:Rs} (hk : -9223372036854775808 ≤ k ∧ k ≤ 9223372036854775807) (hi : -9223372036854775808 ≤ id ∧ id ≤ 9223372036854775807):(zA1 bs k id R).1.wf:=by
 have hz : -9223372036854775808 ≤ (0:Int) ∧ (0:Int) ≤ 9223372036854775807:=by decide
 unfold zA1
 dsimp only
 split
 · exact ⟨hk,hi,hz,hz,hz,hz,hz,hz⟩
 · exact ⟨hk,hi,zGo 0,zGo 1,zGo 2,zGo 3,zGo 4,zGo 5⟩
theorem zSV {bs:List zP} {k id:Int} {R:Rs} (hk : -9223372036854775808 ≤ k ∧ k ≤ 9223372036854775807) (hi : -9223372036854775808 ≤ id ∧ id ≤ 9223372036854775807):(zBA bs k id R).1.wf ∧ (zBA bs k id R).1.k = k ∧ (zBA bs k id R).1.id = id:=by
 have hz : -9223372036854775808 ≤ (0:Int) ∧ (0:Int) ≤ 9223372036854775807:=by decide
 unfold zBA
 split
 · exact ⟨zVI hk hi,rfl,rfl⟩
 · split
   · refine ⟨zQz hk hi,?_,?_⟩ <;> (unfold zA1;dsimp only;split <;> rfl)
   · split <;> exact ⟨⟨hk,hi,hz,hz,hz,hz,hz,hz⟩,rfl,rfl⟩
theorem zMZ : zPa.wf:=⟨by decide,by decide,by decide,by decide,by decide,by decide,by decide,by decide⟩
theorem zTd {bs:List zP} {last:Int} {R:Rs} (hp:R.p ≤ bs.length):(zAG bs last R).1.wf:=by
 unfold zAG
 split
 · exact zMZ
 · split
   · exact zMZ
   · split
     · exact zMZ
     · rename_i h1 h2 h3
       have h4:=zRG (bs:=bs) (last:=last) hp (by omega) (by omega)
       have h5:=(zH bs (zQH bs last R).2).1.isLt
       exact (zSV (by omega) (by change _ ≤ last + 1 + (((zO bs (BitVec.ofInt 64 (65534 - last)) R).1.toNat:Nat):Int) ∧ last + 1 + (((zO bs (BitVec.ofInt 64 (65534 - last)) R).1.toNat:Nat):Int) ≤ _;omega)).1
end Go.Sx
