import Derived.Test.YtajjkegcfmhghaaGreatQSxBasA
import Derived.Test.YtajjkegcfmhghaaGreatQSxBasB
/- Texts of the small logic, one behind the other: SxPvar, SxPrd, SxPrec, SxPrecR, SxPent, SxRrd, SxPrecL, SxPrecM, SxPrecB. -/
set_option linter.unusedVariables false
set_option linter.unusedSimpArgs false
namespace Go.Sx

def zAp (x:Nat):Nat:=if x = 0 then 0 else Nat.log2 x + 1
theorem zDT {x k:Nat} (h:x < 2 ^ k):zAp x ≤ k:=by
 unfold zAp
 split
 · omega
 · rename_i h0
   have:=(Nat.log2_lt h0).2 h
   omega
theorem zGY {x k:Nat} (h:2 ^ k ≤ x):k < zAp x:=by
 unfold zAp
 have h0:x ≠ 0:=by have:=Nat.two_pow_pos k;omega
 rw [if_neg h0]
 have:=(Nat.le_log2 h0).2 h
 omega
theorem zKg {x k:Nat} (h1:x < 2 ^ (k + 1)) (h2:2 ^ k ≤ x):zAp x = k + 1:=by
 have:=zDT h1
 have:=zGY h2
 omega
theorem zHE {x:Nat} (k:Nat) (h:2 ^ k ≤ x):zAp x = k + zAp (x / 2 ^ k):=by
 have hp:=Nat.two_pow_pos k
 have hq:1 ≤ x / 2 ^ k:=(Nat.le_div_iff_mul_le hp).2 (by omega)
 have h0:x / 2 ^ k ≠ 0:=by omega
 have hb:zAp (x / 2 ^ k) = Nat.log2 (x / 2 ^ k) + 1:=by unfold zAp;rw [if_neg h0]
 have l1:=Nat.log2_self_le h0
 have l2:=Nat.lt_log2_self (n:=x / 2 ^ k)
 rw [hb]
 refine (zKg (k:=k + Nat.log2 (x / 2 ^ k)) ?_ ?_).trans (by omega)
 · rw [Nat.add_assoc,Nat.pow_add]
   rw [Nat.mul_comm]
   exact (Nat.div_lt_iff_lt_mul hp).1 l2
 · rw [Nat.pow_add,Nat.mul_comm]
   exact (Nat.le_div_iff_mul_le hp).1 l1
def zFz : Nat → Nat → List zP
 | 0,x=>[BitVec.ofNat 8 x]
 | k + 1,x=>if x < 128 then [BitVec.ofNat 8 x] else BitVec.ofNat 8 (x % 128 + 128) :: zFz k (x / 128)
def zCQ (x:Nat):List zP:=zFz 9 x
def zBX (x:Nat):Nat:=(zCQ x).length
theorem zJG : ∀ (k j x:Nat),x < 128 ^ (k + 1) → zFz (k + j) x = zFz k x
 | 0,0,x,_=>rfl
 | 0,j + 1,x,h=>by rw [Nat.zero_add];simp only [zFz];rw [if_pos (by simpa using h)]
 | k + 1,j,x,h=>by
   rw [show k + 1 + j = (k + j) + 1 by omega]
   simp only [zFz]
   by_cases hx:x < 128
   · rw [if_pos hx,if_pos hx]
   · rw [if_neg hx,if_neg hx,zJG k j (x / 128) (by rw [Nat.div_lt_iff_lt_mul (by omega)];rw [Nat.pow_succ] at h;exact h)]
theorem zDt {x:Nat} (h:x < 128):zCQ x = [BitVec.ofNat 8 x]:=by unfold zCQ;simp only [zFz];rw [if_pos h]
theorem zE5 {x:Nat} (h:¬ x < 128) (hx:x < 2 ^ 64):zCQ x = BitVec.ofNat 8 (x % 128 + 128) :: zCQ (x / 128):=by
 unfold zCQ
 rw [show (9:Nat) = 8 + 1 by rfl]
 rw [show zFz (8 + 1) x = BitVec.ofNat 8 (x % 128 + 128) :: zFz 8 (x / 128) by simp only [zFz];rw [if_neg h]]
 rw [zJG 8 1 (x / 128) (by rw [Nat.div_lt_iff_lt_mul (by omega)];omega)]
theorem zNk : ∀ (k x:Nat),(zFz k x).length ≤ k + 1
 | 0,x=>by simp [zFz]
 | k + 1,x=>by
   simp only [zFz]
   split
   · simp
   · have:=zNk k (x / 128)
     simp;omega
theorem zC2 (x:Nat):zBX x ≤ 10:=zNk 9 x
theorem zC9 (x:Nat):1 ≤ zBX x:=by
 unfold zBX zCQ
 simp only [zFz]
 split <;> simp
theorem zDv {x:Nat} (h:x < 128):zBX x = 1:=by unfold zBX;rw [zDt h];rfl
theorem zCq {x:Nat} (h:¬ x < 128) (hx:x < 2 ^ 64):zBX x = zBX (x / 128) + 1:=by unfold zBX;rw [zE5 h hx];simp
theorem zLV {x:Nat} (h:x < 128):zAp x ≤ 7:=zDT (k:=7) h
theorem zYj : ∀ (d x:Nat),x < 2 ^ 64 → x ≤ d → zBX x = (max 1 (zAp x) + 6) / 7:=by
 intro d
 induction d using Nat.strongRecOn with
 | _ d ih =>
   intro x hx hd
   by_cases h:x < 128
   · rw [zDv h]
     have:=zLV h
     omega
   · have h2:=zHE (x:=x) 7 (by omega)
     rw [show (2:Nat) ^ 7 = 128 by rfl] at h2
     have h3:1 ≤ zAp (x / 128):=zGY (k:=0) (by omega)
     rw [zCq h hx,ih (x / 128) (by omega) (x / 128) (by omega) (Nat.le_refl _),h2]
     omega
theorem zUs (X:BitVec 64):(max 1 ((zAp X.toNat:Nat):Int) + 7 - 1) / 7 = ((zBX X.toNat:Nat):Int):=by
 rw [zYj X.toNat X.toNat X.isLt (Nat.le_refl _)]
 omega
def zMO (X:BitVec 64) (m:Nat):Nat → List zP
 | 0=>List.replicate m 0#8
 | k + 1=>(zMO X m k).set k ((X >>> (7 * k)).setWidth 8 ||| 128#8)
theorem zDL (X:BitVec 64) (m:Nat):∀ k,(zMO X m k).length = m
 | 0=>by simp [zMO]
 | k + 1=>by simp [zMO,zDL X m k]
theorem zKJ (X:BitVec 64) (m:Nat):∀ (k i:Nat),i < k → i < m → (zMO X m k)[i]? = some ((X >>> (7 * i)).setWidth 8 ||| 128#8)
 | 0,i,h,_=>by omega
 | k + 1,i,h,hm=>by
   simp only [zMO]
   by_cases e:k = i
   · subst e
     rw [List.getElem?_set_self (by rw [zDL];exact hm)]
   · rw [List.getElem?_set_ne e]
     exact zKJ X m k i (by omega) hm
theorem zWQ (c:zP):(c ||| 128#8).toNat = c.toNat % 128 + 128:=by
 have:∀ c:BitVec 8,(c ||| 128#8).toNat = c.toNat % 128 + 128:=by decide +kernel
 exact this c
theorem zMj (c:zP):(c &&& ~~~128#8).toNat = c.toNat % 128:=by
 have:∀ c:BitVec 8,(c &&& ~~~128#8).toNat = c.toNat % 128:=by decide +kernel
 exact this c
theorem zHD (X:BitVec 64) (i:Nat):((X >>> (7 * i)).setWidth 8).toNat = X.toNat / 2 ^ (7 * i) % 256:=by
 rw [BitVec.toNat_setWidth,BitVec.toNat_ushiftRight,Nat.shiftRight_eq_div_pow]
theorem zKl : ∀ (n i x:Nat),zBX x = n → x < 2 ^ 64 → i < n → (zCQ x)[i]? = some (if i + 1 = n then BitVec.ofNat 8 (x / 128 ^ i) else BitVec.ofNat 8 (x / 128 ^ i % 128 + 128)):=by
 intro n
 induction n with
 | zero=>intro i x _ _ h;omega
 | succ n ih =>
   intro i x hn hx hi
   by_cases h:x < 128
   · have h1:=zDv h
     have:n = 0:=by omega
     subst this
     have:i = 0:=by omega
     subst this
     rw [zDt h]
     simp
   · have h1:=zCq h hx
     have hpos:=zC9 (x / 128)
     rw [zE5 h hx]
     cases i with
     | zero =>
       rw [if_neg (by omega)]
       simp
     | succ i =>
       rw [List.getElem?_cons_succ,ih i (x / 128) (by omega) (by omega) (by omega)]
       rw [Nat.div_div_eq_div_mul,show 128 * 128 ^ i = 128 ^ (i + 1) by rw [Nat.pow_succ,Nat.mul_comm]]
       by_cases e:i + 1 = n
       · rw [if_pos e,if_pos (by omega)]
       · rw [if_neg e,if_neg (by omega)]
theorem zcG (i:Nat):(2:Nat) ^ (7 * i) = 128 ^ i:=by rw [Nat.pow_mul]
theorem zOj (n x:Nat) (hn:zBX x = n + 1) (hx:x < 2 ^ 64):x / 128 ^ n < 128:=by
 induction n generalizing x with
 | zero =>
   by_cases h:x < 128
   · simpa using h
   · have:=zCq h hx;have:=zC9 (x / 128);omega
 | succ n ih =>
   by_cases h:x < 128
   · have:=zDv h;omega
   · have:=zCq h hx
     have:=ih (x / 128) (by omega) (by omega)
     rwa [Nat.div_div_eq_div_mul,show 128 * 128 ^ n = 128 ^ (n + 1) by rw [Nat.pow_succ,Nat.mul_comm]] at this
theorem zar (X:BitVec 64) (m:Nat) (hm:zBX X.toNat = m):(zMO X m m).set (m - 1) ((zMO X m m).getD (m - 1) 0 &&& ~~~128#8) = zCQ X.toNat:=by
 have hpos:=zC9 X.toNat
 have hlen:(zCQ X.toNat).length = m:=hm
 apply List.ext_getElem?
 intro i
 by_cases hi:i < m
 · rw [zKl m i X.toNat hm X.isLt hi]
   by_cases e:m - 1 = i
   · subst e
     rw [List.getElem?_set_self (by rw [zDL];exact hi),if_pos (by omega)]
     have hg:=zKJ X m m (m - 1) (by omega) hi
     have ht:=zOj (m - 1) X.toNat (by omega) X.isLt
     congr 1
     apply BitVec.eq_of_toNat_eq
     rw [zMj,List.getD_eq_getElem?_getD,hg,Option.getD_some,zWQ,zHD,zcG,BitVec.toNat_ofNat]
     generalize X.toNat / 128 ^ (m - 1) = q at *
     omega
   · rw [List.getElem?_set_ne e,zKJ X m m i hi hi,if_neg (by omega)]
     congr 1
     apply BitVec.eq_of_toNat_eq
     rw [zWQ,zHD,zcG,BitVec.toNat_ofNat]
     omega
 · rw [List.getElem?_eq_none (by rw [List.length_set,zDL];omega),List.getElem?_eq_none (by omega)]
theorem zXW : ∀ (n x:Nat),1 ≤ n → x < 2 ^ 64 → x < 128 ^ n → zBX x ≤ n:=by
 intro n
 induction n with
 | zero=>intro x h;omega
 | succ n ih =>
   intro x h1 hx h
   by_cases hs:x < 128
   · rw [zDv hs];omega
   · have h2:=zCq hs hx
     cases n with
     | zero=>simp at h;omega
     | succ n =>
       have:=ih (x / 128) (by omega) (by omega) (by rw [Nat.div_lt_iff_lt_mul (by omega)];rw [Nat.pow_succ] at h;exact h)
       omega
/-! ### What is got -/
def zEl : List zP → Nat
 | []=>0
 | c :: l=>c.toNat % 128 + 128 * zEl l
def zA5 : Nat → List zP → Nat
 | 0,_=>0
 | _,[]=>0
 | k + 1,c :: l=>if 128 ≤ c.toNat then zA5 k l + 1 else 0
def zCO (b:List zP):BitVec 64 × Nat × Nat :=
 if b.length = 0 then (0#64,0,5) else if zA5 10 b = 10 then (0#64,0,8) else if zA5 10 b = b.length then (0#64,0,6)
 else if zA5 10 b = 9 ∧ 1 < (b.getD (zA5 10 b) 0).toNat then (0#64,0,8)
 else if (b.getD (zA5 10 b) 0).toNat = 0 ∧ 0 < zA5 10 b then (0#64,0,7)
 else (BitVec.ofNat 64 (zEl (b.take (zA5 10 b + 1))),zA5 10 b + 1,0)
theorem zF4 : ∀ (k:Nat) (b:List zP),zA5 k b ≤ k ∧ zA5 k b ≤ b.length
 | 0,b=>by simp [zA5]
 | k + 1,[]=>by simp [zA5]
 | k + 1,c :: l=>by
   have:=zF4 k l
   simp only [zA5]
   split
   · simp;omega
   · simp
theorem zFQ : ∀ (k i:Nat) (b:List zP),i ≤ zA5 k b → i < k → i < b.length → 128 ≤ (b.getD i 0).toNat → i + 1 ≤ zA5 k b
 | 0,i,b,_,h,_,_=>by omega
 | k + 1,i,[],_,_,h,_=>by simp at h
 | k + 1,0,c :: l,_,_,_,h=>by
   simp only [zA5]
   rw [if_pos (by simpa using h)]
   omega
 | k + 1,i + 1,c :: l,h1,h2,h3,h4=>by
   simp only [zA5] at *
   split at h1
   · rename_i hc
     rw [if_pos hc]
     have:=zFQ k i l (by omega) (by omega) (by simpa using h3) (by simpa using h4)
     omega
   · omega
theorem zFJ : ∀ (k i:Nat) (b:List zP),i ≤ zA5 k b → i < b.length → (b.getD i 0).toNat < 128 → zA5 k b = i
 | 0,i,b,h,_,_=>by simp only [zA5] at *;omega
 | k + 1,i,[],_,h,_=>by simp at h
 | k + 1,0,c :: l,_,_,h=>by
   simp only [zA5]
   rw [if_neg (by have:c.toNat < 128:=(by simpa using h);omega)]
 | k + 1,i + 1,c :: l,h1,h3,h4=>by
   simp only [zA5] at *
   split at h1
   · rename_i hc
     rw [if_pos hc,zFJ k i l (by omega) (by simpa using h3) (by simpa using h4)]
   · omega
theorem zKo : ∀ (b:List zP),zEl b < 128 ^ b.length
 | []=>by simp [zEl]
 | c :: l=>by
   have:=zKo l
   simp only [zEl,List.length_cons,Nat.pow_succ]
   omega
theorem zIV : ∀ (b c:List zP),zEl (b ++ c) = zEl b + 128 ^ b.length * zEl c
 | [],c=>by simp [zEl]
 | x :: l,c=>by
   simp only [zEl,List.cons_append,zIV l c,List.length_cons,Nat.pow_succ]
   rw [Nat.mul_add,Nat.mul_comm (128 ^ l.length) 128,Nat.mul_assoc]
   omega
theorem zLi (b:List zP) (i:Nat) (h:i < b.length):zEl (b.take (i + 1)) = zEl (b.take i) + 128 ^ i * ((b.getD i 0).toNat % 128):=by
 rw [List.take_add_one,zIV]
 have:b[i]?.toList = [b.getD i 0]:=by simp [h,List.getD_eq_getElem?_getD]
 rw [this,List.length_take,Nat.min_eq_left (by omega)]
 simp [zEl]
theorem zHX (b : List zP) (i : Nat) (h : i < b.length) (h9 : i ≤ 9) :
   BitVec.ofNat 64 (zEl (b.take i)) ||| ((b.getD i 0 &&& ~~~128#8).setWidth 64) <<< (7 * i) = BitVec.ofNat 64 (zEl (b.take (i + 1))):=by
 have hl:=zKo (b.take i)
 rw [List.length_take,Nat.min_eq_left (by omega)] at hl
 have hp:128 ^ i ≤ 128 ^ 9:=Nat.pow_le_pow_right (by omega) h9
 have hp2:(128:Nat) ^ 9 < 2 ^ 64:=by decide
 have hc:(b.getD i 0).toNat % 128 < 128:=Nat.mod_lt _ (by omega)
 rw [zLi b i h]
 apply BitVec.eq_of_toNat_eq
 rw [BitVec.toNat_or,BitVec.toNat_shiftLeft,BitVec.toNat_setWidth,zMj,BitVec.toNat_ofNat,BitVec.toNat_ofNat]
 rw [Nat.mod_eq_of_lt (by omega:(b.getD i 0).toNat % 128 < 2 ^ 64),Nat.mod_eq_of_lt (by omega:zEl (b.take i) < 2 ^ 64)]
 rw [Nat.or_comm,← zcG] at *
 have e:2 ^ (7 * i) * ((b.getD i 0).toNat % 128) + zEl (b.take i) = ((b.getD i 0).toNat % 128) <<< (7 * i) ||| zEl (b.take i):=by
   rw [← Nat.shiftLeft_add_eq_or_of_lt hl,Nat.shiftLeft_eq,Nat.mul_comm]
 rw [Nat.add_comm,e,Nat.or_mod_two_pow,Nat.mod_eq_of_lt (by omega:zEl (b.take i) < 2 ^ 64)]
theorem za7 (c:zP) (i:Nat) (h9:i ≤ 9):((((c &&& ~~~128#8).setWidth 64) <<< (7 * i)) >>> (7 * i) = (c &&& ~~~128#8).setWidth 64) ↔ ¬ (i = 9 ∧ 1 < c.toNat % 128):=by
 have hc:c.toNat % 128 < 128:=Nat.mod_lt _ (by omega)
 rw [← BitVec.toNat_inj]
 rw [BitVec.toNat_ushiftRight,BitVec.toNat_shiftLeft,BitVec.toNat_setWidth,zMj,Nat.shiftLeft_eq,Nat.shiftRight_eq_div_pow,Nat.mod_eq_of_lt (by omega:c.toNat % 128 < 2 ^ 64)]
 generalize c.toNat % 128 = q at *
 by_cases e:i = 9
 · subst e
   rw [show (7 * 9) = 63 by rfl]
   omega
 · have h1 : q * 2 ^ (7 * i) < 2 ^ 64 := by
     have:2 ^ (7 * i) ≤ 2 ^ (7 * 8):=Nat.pow_le_pow_right (by omega) (by omega)
     rw [show 7 * 8 = 56 by rfl] at this
     have:q * 2 ^ (7 * i) ≤ 127 * 2 ^ 56:=Nat.mul_le_mul (by omega) this
     omega
   rw [Nat.mod_eq_of_lt h1,Nat.mul_div_cancel _ (Nat.two_pow_pos _)]
   simp [e]
theorem zCI {b:List zP} (h:b.length = 0):zCO b = (0#64,0,5):=by unfold zCO;rw [if_pos h]
theorem zB1 {b:List zP} {i:Nat} (h1:i ≤ zA5 10 b) (hi:i < b.length) (h9:i ≤ 9) (hc:(b.getD i 0).toNat < 128) (ho:¬ ((((b.getD i 0 &&& ~~~128#8).setWidth 64) <<< (7 * i)) >>> (7 * i) = (b.getD i 0 &&& ~~~128#8).setWidth 64)):zCO b = (0#64,0,8):=by
 rw [za7 _ _ h9] at ho
 have hn:=zFJ 10 i b h1 hi hc
 unfold zCO
 rw [if_neg (by omega),hn,if_neg (by omega),if_neg (by omega),if_pos (by omega)]
theorem zBz {b:List zP} {i:Nat} (h1:i ≤ zA5 10 b) (hi:i < b.length) (h9:i ≤ 9) (hi0:0 < i) (h0:(b.getD i 0).toNat = 0):zCO b = (0#64,0,7):=by
 have hn:=zFJ 10 i b h1 hi (by omega)
 unfold zCO
 rw [if_neg (by omega),hn,if_neg (by omega),if_neg (by omega),if_neg (by omega),if_pos (by omega)]
theorem zCk {b:List zP} {i:Nat} (h1:i ≤ zA5 10 b) (hi:i < b.length) (h9:i ≤ 9) (hc:(b.getD i 0).toNat < 128) (hov:(((b.getD i 0 &&& ~~~128#8).setWidth 64) <<< (7 * i)) >>> (7 * i) = (b.getD i 0 &&& ~~~128#8).setWidth 64) (h0:¬ ((b.getD i 0).toNat = 0 ∧ 0 < i)):zCO b = (BitVec.ofNat 64 (zEl (b.take (i + 1))),i + 1,0):=by
 rw [za7 _ _ h9] at hov
 have hn:=zFJ 10 i b h1 hi hc
 unfold zCO
 rw [if_neg (by omega),hn,if_neg (by omega),if_neg (by omega),if_neg (by omega),if_neg (by omega)]
theorem zB0 {b:List zP} (h1:10 ≤ zA5 10 b):zCO b = (0#64,0,8):=by
 have:=zF4 10 b
 unfold zCO
 rw [if_neg (by omega),if_pos (by omega)]
theorem zBN {b:List zP} (h0:0 < b.length) (h1:b.length ≤ zA5 10 b) (hl:b.length < 10):zCO b = (0#64,0,6):=by
 have:=zF4 10 b
 unfold zCO
 rw [if_neg (by omega),if_neg (by omega),if_pos (by omega)]
/-! ### The document's own way -/
/-! ### There and back -/
theorem zSK : ∀ (n k x:Nat) (r:List zP),zBX x = n + 1 → x < 2 ^ 64 → n ≤ k → (n < k ∨ r = []) → zA5 k (zCQ x ++ r) = n:=by
 intro n
 induction n with
 | zero =>
   intro k x r hn hx hk hr
   have h:x < 128:=by
     apply Classical.byContradiction
     intro h
     have:=zCq h hx;have:=zC9 (x / 128);omega
   rw [zDt h]
   cases k with
   | zero=>rfl
   | succ k =>
     simp only [List.singleton_append,zA5]
     rw [if_neg]
     rw [BitVec.toNat_ofNat]
     omega
 | succ n ih =>
   intro k x r hn hx hk hr
   have h:¬ x < 128:=by intro h;have:=zDv h;omega
   have h1:=zCq h hx
   rw [zE5 h hx]
   cases k with
   | zero=>omega
   | succ k =>
     simp only [List.cons_append,zA5]
     rw [if_pos (by rw [BitVec.toNat_ofNat];omega),ih k (x / 128) r (by omega) (by omega) (by omega) (hr.imp (by omega) id)]
theorem zTo : ∀ (n x:Nat),zBX x = n → x < 2 ^ 64 → zEl (zCQ x) = x:=by
 intro n
 induction n with
 | zero=>intro x hn;have:=zC9 x;omega
 | succ n ih =>
   intro x hn hx
   by_cases h:x < 128
   · rw [zDt h]
     simp only [zEl,BitVec.toNat_ofNat]
     omega
   · have h1:=zCq h hx
     rw [zE5 h hx]
     simp only [zEl,BitVec.toNat_ofNat]
     rw [ih (x / 128) (by omega) (by omega)]
     omega
theorem zVY (X:BitVec 64) (r:List zP):zCO (zCQ X.toNat ++ r) = (X,zBX X.toNat,0):=by
 have hx:=X.isLt
 have hp:=zC9 X.toNat
 have hle:=zC2 X.toNat
 have hl:(zCQ X.toNat).length = zBX X.toNat:=rfl
 have hn:=zSK (zBX X.toNat - 1) 10 X.toNat r (by omega) hx (by omega) (by omega)
 have ht:=zOj (zBX X.toNat - 1) X.toNat (by omega) hx
 have hg:=zKl (zBX X.toNat) (zBX X.toNat - 1) X.toNat rfl hx (by omega)
 rw [if_pos (by omega)] at hg
 have hd:(zCQ X.toNat ++ r).getD (zBX X.toNat - 1) 0 = BitVec.ofNat 8 (X.toNat / 128 ^ (zBX X.toNat - 1)):=by
   rw [List.getD_eq_getElem?_getD,List.getElem?_append_left (by omega),hg]
   rfl
 have hdn:((zCQ X.toNat ++ r).getD (zBX X.toNat - 1) 0).toNat = X.toNat / 128 ^ (zBX X.toNat - 1):=by
   rw [hd,BitVec.toNat_ofNat]
   generalize X.toNat / 128 ^ (zBX X.toNat - 1) = q at *
   omega
 have h9:zBX X.toNat - 1 = 9 → ¬ 1 < X.toNat / 128 ^ (zBX X.toNat - 1):=by
   intro e
   rw [e,show (128:Nat) ^ 9 = 9223372036854775808 by rfl]
   omega
 have h0:0 < zBX X.toNat - 1 → ¬ X.toNat / 128 ^ (zBX X.toNat - 1) = 0:=by
   intro h0 e
   have:=Nat.div_eq_zero_iff.1 e
   rcases this with h | h
   · have:=Nat.pos_of_ne_zero (n:=128 ^ (zBX X.toNat - 1)) (by intro h;have:=Nat.pow_eq_zero.1 h;omega);omega
   · have:=zXW (zBX X.toNat - 1) X.toNat (by omega) hx h
     omega
 unfold zCO
 have hla:(zCQ X.toNat ++ r).length = zBX X.toNat + r.length:=by rw [List.length_append,hl]
 rw [if_neg (by omega),hn,if_neg (by omega),if_neg (by omega),hdn,if_neg (fun h=>h9 h.1 h.2),if_neg (fun h=>h0 h.2 h.1),show zBX X.toNat - 1 + 1 = zBX X.toNat by omega]
 rw [← hl,List.take_left',zTo _ _ rfl hx]
 · simp
 · rfl
theorem zQ1 (X:BitVec 64) (i:Nat) (h1:1 ≤ i) (h2:i < zBX X.toNat):zCO ((zCQ X.toNat).take i) = (0#64,0,6):=by
 have hle:=zC2 X.toNat
 have hl:(zCQ X.toNat).length = zBX X.toNat:=rfl
 refine zBN (by simp;omega) ?_ (by simp;omega)
 have:∀ j,j ≤ i → j ≤ zA5 10 ((zCQ X.toNat).take i):=by
   intro j
   induction j with
   | zero=>intro _;omega
   | succ j ih =>
     intro hj
     refine zFQ 10 j _ (ih (by omega)) (by omega) (by simp;omega) ?_
     have hg:=zKl (zBX X.toNat) j X.toNat rfl X.isLt (by omega)
     rw [if_neg (by omega)] at hg
     rw [List.getD_eq_getElem?_getD,List.getElem?_take_of_lt (by omega),hg,Option.getD_some,BitVec.toNat_ofNat]
     omega
 have:=this i (Nat.le_refl _)
 simp;omega
theorem zVv : ∀ (n:Nat) (b:List zP),n < b.length → (∀ j,j < n → 128 ≤ (b.getD j 0).toNat) → (b.getD n 0).toNat < 128 → ¬ ((b.getD n 0).toNat = 0 ∧ 0 < n) → zEl (b.take (n + 1)) < 2 ^ 64 → zCQ (zEl (b.take (n + 1))) = b.take (n + 1) ∧ ((b.getD n 0).toNat ≠ 0 → zEl (b.take (n + 1)) ≠ 0):=by
 intro n
 induction n with
 | zero =>
   intro b hb _ hc _ _
   cases b with
   | nil=>simp at hb
   | cons c l =>
     have hc':c.toNat < 128:=by simpa using hc
     simp only [Nat.zero_add,List.take_succ_cons,List.take_zero,zEl,Nat.mul_zero,Nat.add_zero]
     rw [Nat.mod_eq_of_lt hc',zDt hc']
     simp
 | succ n ih =>
   intro b hb hj hc h0 hv
   cases b with
   | nil=>simp at hb
   | cons c l =>
     have hc0:128 ≤ c.toNat:=by simpa using hj 0 (by omega)
     simp only [List.take_succ_cons,zEl] at hv ⊢
     simp only [List.getD_cons_succ] at hc h0
     have:=ih l (by simpa using hb) (fun j h=>by simpa using hj (j + 1) (by omega)) hc (by omega) (by omega)
     have hnz:=this.2 (by omega)
     refine ⟨?_,fun _=>by omega⟩
     rw [zE5 (by omega) hv]
     congr 1
     · apply BitVec.eq_of_toNat_eq
       have:=c.isLt
       rw [BitVec.toNat_ofNat]
       omega
     · rw [show (c.toNat % 128 + 128 * zEl (l.take (n + 1))) / 128 = zEl (l.take (n + 1)) by omega]
       exact this.1
theorem zL0 : ∀ (k:Nat) (b:List zP) (j:Nat),j < zA5 k b → 128 ≤ (b.getD j 0).toNat
 | 0,b,j,h=>by simp [zA5] at h
 | k + 1,[],j,h=>by simp [zA5] at h
 | k + 1,c :: l,j,h=>by
   simp only [zA5] at h
   split at h
   · cases j with
     | zero=>simpa
     | succ j=>simpa using zL0 k l j (by omega)
   · omega
theorem zJS : ∀ (k:Nat) (b:List zP),zA5 k b < k → zA5 k b < b.length → (b.getD (zA5 k b) 0).toNat < 128
 | 0,b,h,_=>by omega
 | k + 1,[],_,h=>by simp at h
 | k + 1,c :: l,h1,h2=>by
   simp only [zA5] at *
   split
   · rename_i hc
     rw [if_pos hc] at h1 h2
     simpa using zJS k l (by omega) (by simpa using h2)
   · simp;omega
theorem zKD {b:List zP} {z:BitVec 64} {k:Nat} (h:zCO b = (z,k,0)):1 ≤ k ∧ k ≤ b.length ∧ zCQ z.toNat = b.take k:=by
 have hle:=zF4 10 b
 unfold zCO at h
 split at h
 · simp at h
 split at h
 · simp at h
 split at h
 · simp at h
 split at h
 · simp at h
 split at h
 · simp at h
 rename_i h1 h2 h3 h4 h5
 simp only [Prod.mk.injEq] at h
 obtain ⟨rfl,rfl,_⟩:=h
 have hn:=zJS 10 b (by omega) (by omega)
 have hv:zEl (b.take (zA5 10 b + 1)) < 2 ^ 64:=by
   by_cases e:zA5 10 b = 9
   · rw [zLi b _ (by omega)]
     have:=zKo (b.take (zA5 10 b))
     rw [List.length_take,Nat.min_eq_left (by omega)] at this
     rw [e] at this hn h4 ⊢
     rw [show (128:Nat) ^ 9 = 9223372036854775808 by rfl] at *
     omega
   · have:=zKo (b.take (zA5 10 b + 1))
     rw [List.length_take,Nat.min_eq_left (by omega)] at this
     have:(128:Nat) ^ (zA5 10 b + 1) ≤ 128 ^ 9:=Nat.pow_le_pow_right (by omega) (by omega)
     rw [show (128:Nat) ^ 9 = 9223372036854775808 by rfl] at this
     omega
 refine ⟨by omega,by omega,?_⟩
 rw [BitVec.toNat_ofNat,Nat.mod_eq_of_lt hv]
 exact (zVv (zA5 10 b) b (by omega) (fun j hj=>zL0 10 b j hj) hn h5 hv).1

/-! ### How long a number is -/
def zYq : ByteArray:=(ByteArray.mk (List.toArray (List.append (List.append [0,1,2,2,3,3,3,3,4,4,4,4,4,4,4,4,5,5,5,5,5,5,5,5,5,5,5,5,5,5,5,5,6,6,6,6,6,6,6,6,6,6,6,6,6,6,6,6,6,6,6,6,6,6,6,6,6,6,6,6,6,6,6,6] [7,7,7,7,7,7,7,7,7,7,7,7,7,7,7,7,7,7,7,7,7,7,7,7,7,7,7,7,7,7,7,7,7,7,7,7,7,7,7,7,7,7,7,7,7,7,7,7,7,7,7,7,7,7,7,7,7,7,7,7,7,7,7,7]) (List.append [8,8,8,8,8,8,8,8,8,8,8,8,8,8,8,8,8,8,8,8,8,8,8,8,8,8,8,8,8,8,8,8,8,8,8,8,8,8,8,8,8,8,8,8,8,8,8,8,8,8,8,8,8,8,8,8,8,8,8,8,8,8,8,8] [8,8,8,8,8,8,8,8,8,8,8,8,8,8,8,8,8,8,8,8,8,8,8,8,8,8,8,8,8,8,8,8,8,8,8,8,8,8,8,8,8,8,8,8,8,8,8,8,8,8,8,8,8,8,8,8,8,8,8,8,8,8,8,8]))))
theorem zDl : ∀ Y:BitVec 8,zYq[Y.toNat]? = some (UInt8.ofBitVec (BitVec.ofNat 8 (zAp Y.toNat))):=by decide +kernel
theorem zZg (Y:BitVec 64) (k:Nat) (h:2 ^ k ≤ Y.toNat):zAp Y.toNat = k + zAp (Y >>> k).toNat:=by
 rw [BitVec.toNat_ushiftRight,Nat.shiftRight_eq_div_pow]
 exact zHE k h
theorem zW2 (Y:BitVec 64) (h:Y.toNat < 256):(BitVec.ofNat 8 (zAp (Y.setWidth 8).toNat)).toNat = zAp Y.toNat:=by
 rw [BitVec.toNat_setWidth,Nat.mod_eq_of_lt (by omega),BitVec.toNat_ofNat]
 have:=zDT (k:=8) h
 omega
theorem zEP (Y:BitVec 64) (k:Nat):(Y >>> k).toNat = Y.toNat / 2 ^ k:=by rw [BitVec.toNat_ushiftRight,Nat.shiftRight_eq_div_pow]
/-! ### The document's Put -/
/-! ### Of either sign -/
def zGf (x:Int):BitVec 64:=if 0 ≤ x then BitVec.ofInt 64 (2 * x) else BitVec.ofInt 64 (-2 * x - 1)
def zO7 (X:BitVec 64):Int:=if X.toNat % 2 = 0 then ((X.toNat / 2:Nat):Int) else -((X.toNat / 2:Nat):Int) - 1
theorem zOy (p:Int):BitVec.ofInt 64 (IntKind.i64.wrap p) = BitVec.ofInt 64 p:=by
 rw [IntKind.wrap_i64]
 apply BitVec.eq_of_toNat_eq
 simp only [BitVec.toNat_ofInt]
 rw [show ((2 ^ 64:Nat):Int) = 18446744073709551616 by rfl]
 omega
theorem zaL (p:Int) (h : -9223372036854775808 ≤ p ∧ p ≤ 9223372036854775807):BitVec.ofInt 64 (IntKind.i64.wrap (p * 2 ^ (min 1 64))) ^^^ BitVec.ofInt 64 (p.fdiv (2 ^ (min 63 64))) = zGf p:=by
 rw [zOy]
 unfold zGf
 rw [show (2:Int) ^ (min 1 64) = 2 by decide,show (2:Int) ^ (min 63 64) = 9223372036854775808 by decide,Int.fdiv_eq_ediv_of_nonneg _ (by omega)]
 split
 · rw [show p / 9223372036854775808 = 0 by omega,Int.mul_comm]
   simp
 · rw [show p / 9223372036854775808 = -1 by omega]
   rw [show BitVec.ofInt 64 (-1) = BitVec.allOnes 64 by decide,BitVec.xor_allOnes]
   apply BitVec.eq_of_toNat_eq
   simp only [BitVec.toNat_not,BitVec.toNat_ofInt]
   omega
theorem zaF (X:BitVec 64):(X &&& 1#64).toInt = ((X.toNat % 2:Nat):Int):=by
 rw [BitVec.toInt_eq_toNat_cond,BitVec.toNat_and]
 simp [Nat.and_one_is_mod]
 omega
theorem zaz (X:BitVec 64):(BitVec.ofInt 64 (X >>> 1).toInt ^^^ BitVec.ofInt 64 (-(X &&& 1#64).toInt)).toInt = zO7 X:=by
 rw [zaF,BitVec.ofInt_toInt]
 have hx:=X.isLt
 unfold zO7
 split
 · rename_i h
   rw [h]
   simp only [Int.natCast_zero,Int.neg_zero]
   rw [show BitVec.ofInt 64 0 = 0#64 by decide,BitVec.xor_zero,BitVec.toInt_eq_toNat_cond,zEP]
   rw [Nat.pow_one]
   split <;> omega
 · rename_i h
   rw [show X.toNat % 2 = 1 by omega]
   rw [show BitVec.ofInt 64 (-((1:Nat):Int)) = BitVec.allOnes 64 by decide,BitVec.xor_allOnes,BitVec.toInt_eq_toNat_cond,BitVec.toNat_not,zEP]
   rw [Nat.pow_one]
   split <;> omega
theorem zF0 (X:BitVec 64) : -9223372036854775808 ≤ zO7 X ∧ zO7 X ≤ 9223372036854775807:=by
 have hx:=X.isLt
 unfold zO7
 split <;> omega
theorem zYd (p:Int) (h : -9223372036854775808 ≤ p ∧ p ≤ 9223372036854775807):zO7 (zGf p) = p:=by
 unfold zGf
 split
 · unfold zO7
   rw [BitVec.toNat_ofInt]
   split <;> omega
 · unfold zO7
   rw [BitVec.toNat_ofInt]
   split <;> omega
theorem zIy {b:List zP} (h:(zCO b).2.2 = 0):1 ≤ (zCO b).2.1 ∧ (zCO b).2.1 ≤ b.length ∧ zCQ (zCO b).1.toNat = b.take (zCO b).2.1 :=
 zKD (z:=(zCO b).1) (k:=(zCO b).2.1) (by rw [← h])
end Go.Sx

set_option linter.unusedVariables false
set_option linter.unusedSimpArgs false
namespace Go.Sx
structure Rs where
 p:Nat
 e:Nat
def zG (bs:List zP) (R:Rs):zP × Rs:=if R.e ≠ 0 then (0#8,R) else if bs.length ≤ R.p then (0#8,⟨R.p,6⟩) else (bs.getD R.p 0,⟨R.p + 1,0⟩)
def zIz (b:List zP) (X:BitVec 64):Nat:=if (zCO b).2.2 = 0 ∧ X.toNat < (zCO b).1.toNat then 3 else (zCO b).2.2
def zN (bs:List zP) (X:BitVec 64) (R:Rs):BitVec 64 × Rs :=
 if R.e ≠ 0 then (0#64,R) else if bs.length ≤ R.p then (0#64,⟨R.p,6⟩) else if zIz (bs.drop R.p) X ≠ 0 then (0#64,⟨R.p,zIz (bs.drop R.p) X⟩) else ((zCO (bs.drop R.p)).1,⟨R.p + (zCO (bs.drop R.p)).2.1,0⟩)
def zAB (bs:List zP) (R:Rs):Int × Rs:=(zO7 (zN bs 18446744073709551615#64 R).1,(zN bs 18446744073709551615#64 R).2)
def zBi (e:Nat) (R:Rs):Rs:=if R.e = 0 then ⟨R.p,e⟩ else R
def zI1 (bs:List zP) (R:Rs):Nat:=if R.e ≠ 0 ∨ bs.length ≤ R.p then R.e else 8
def zZ5 (bs:List zP) (R:Rs):Rs:=(zAB bs (zAB bs (zAB bs R).2).2).2
theorem zMv {b:List zP} {X:BitVec 64} (h:zIz b X = 0):(zCO b).2.2 = 0 ∧ ¬ X.toNat < (zCO b).1.toNat:=by
 unfold zIz at h
 split at h
 · cases h
 · rename_i h'
   exact ⟨h,fun h2=>h' ⟨h,h2⟩⟩
theorem zSo {b:List zP} {X:BitVec 64} (h:zIz b X = 0):1 ≤ (zCO b).2.1 ∧ (zCO b).2.1 ≤ b.length:=by
 have:=zIy (zMv h).1
 exact ⟨this.1,this.2.1⟩
theorem zUX (b:List zP):(zCO b).2.1 ≤ 10:=by
 have:=zF4 10 b
 unfold zCO
 repeat' split
 all_goals simp
 omega
theorem zCp {bs:List zP} {X:BitVec 64} {R:Rs} (h:R.e ≠ 0):zN bs X R = (0#64,R):=by unfold zN;rw [if_pos h]
theorem zCW {bs:List zP} {X:BitVec 64} {R:Rs} (h:R.e = 0) (h1:bs.length ≤ R.p):zN bs X R = (0#64,⟨R.p,6⟩):=by unfold zN;rw [if_neg (by omega),if_pos h1]
theorem zD6 {bs:List zP} {X:BitVec 64} {R:Rs} (h:R.e = 0) (h1:¬ bs.length ≤ R.p) (h2:zIz (bs.drop R.p) X ≠ 0):zN bs X R = (0#64,⟨R.p,zIz (bs.drop R.p) X⟩):=by unfold zN;rw [if_neg (by omega),if_neg h1,if_pos h2]
theorem zDE {bs:List zP} {X:BitVec 64} {R:Rs} (h:R.e = 0) (h1:¬ bs.length ≤ R.p) (h2:zIz (bs.drop R.p) X = 0):zN bs X R = ((zCO (bs.drop R.p)).1,⟨R.p + (zCO (bs.drop R.p)).2.1,0⟩):=by unfold zN;rw [if_neg (by omega),if_neg h1,if_neg (by omega)]
theorem zDw {bs:List zP} {R:Rs} (h:R.e ≠ 0):zG bs R = (0#8,R):=by unfold zG;rw [if_pos h]
theorem zDP {bs:List zP} {R:Rs} (h:R.e = 0) (h1:bs.length ≤ R.p):zG bs R = (0#8,⟨R.p,6⟩):=by unfold zG;rw [if_neg (by omega),if_pos h1]
theorem zDu {bs:List zP} {R:Rs} (h:R.e = 0) (h1:¬ bs.length ≤ R.p):zG bs R = (bs.getD R.p 0,⟨R.p + 1,0⟩):=by unfold zG;rw [if_neg (by omega),if_neg h1]
theorem zA1 {bs:List zP} {X:BitVec 64} {R:Rs} (h:R.p ≤ bs.length):(zN bs X R).2.p ≤ bs.length ∧ R.p ≤ (zN bs X R).2.p ∧ (zN bs X R).2.p ≤ R.p + 10 ∧ (zN bs X R).1.toNat ≤ X.toNat ∧ (R.e ≠ 0 → zN bs X R = (0#64,R)):=by
 by_cases h0:R.e = 0
 · by_cases h1:bs.length ≤ R.p
   · rw [zCW h0 h1];simp;omega
   · by_cases h2:zIz (bs.drop R.p) X = 0
     · rw [zDE h0 h1 h2]
       have:=zSo h2
       have h3:=zUX (bs.drop R.p)
       have h4:=(zMv h2).2
       simp only [List.length_drop] at this
       simp [h0]
       omega
     · rw [zD6 h0 h1 h2];simp [h0];omega
 · rw [zCp h0];simp;omega
theorem zEM {bs:List zP} {R:Rs} (h:R.p ≤ bs.length):(zG bs R).2.p ≤ bs.length ∧ R.p ≤ (zG bs R).2.p ∧ (zG bs R).2.p ≤ R.p + 1 ∧ (R.e ≠ 0 → zG bs R = (0#8,R)):=by
 by_cases h0:R.e = 0
 · by_cases h1:bs.length ≤ R.p
   · rw [zDP h0 h1];simp [h0];omega
   · rw [zDu h0 h1];simp [h0];omega
 · rw [zDw h0];simp;omega
theorem zDM {bs:List zP} {R:Rs} (h:R.p ≤ bs.length):(zAB bs R).2.p ≤ bs.length ∧ R.p ≤ (zAB bs R).2.p ∧ (zAB bs R).2.p ≤ R.p + 10 ∧ (R.e ≠ 0 → zAB bs R = (0,R)):=by
 have:=zA1 (X:=18446744073709551615#64) h
 refine ⟨this.1,this.2.1,this.2.2.1,fun h0=>?_⟩
 unfold zAB
 rw [this.2.2.2.2 h0]
 simp [zO7]
theorem zX9 {bs:List zP} {R:Rs} (h:R.p ≤ bs.length):(zZ5 bs R).p ≤ bs.length ∧ R.p ≤ (zZ5 bs R).p ∧ (zZ5 bs R).p ≤ R.p + 30:=by
 have h1:=zDM h
 have h2:=zDM h1.1
 have h3:=zDM h2.1
 unfold zZ5
 omega
theorem zBU {bs:List zP} {e:Nat} {R:Rs} (h:R.p ≤ bs.length):(zBi e R).p ≤ bs.length ∧ (zBi e R).p = R.p ∧ (R.e = 0 → (zBi e R).e = e) ∧ (R.e ≠ 0 → (zBi e R).e = R.e):=by
 unfold zBi
 split
 · rename_i h0;simp [h,h0]
 · rename_i h0;simp [h,h0]
theorem zO8 {bs:List zP} {R:Rs} (h:R.e ≠ 0):(zG bs R).2.p = R.p ∧ (zG bs R).2.e = R.e ∧ (zG bs R).1.toNat = 0:=by rw [zDw h];simp
theorem zJN {bs:List zP} {X:BitVec 64} {R:Rs} (h:R.e ≠ 0):(zN bs X R).2.p = R.p ∧ (zN bs X R).2.e = R.e ∧ (zN bs X R).1.toNat = 0:=by rw [zCp h];simp
theorem zLE {bs:List zP} {R:Rs} (h:R.e ≠ 0):(zAB bs R).2.p = R.p ∧ (zAB bs R).2.e = R.e ∧ (zAB bs R).1 = 0:=by
 unfold zAB
 rw [zCp h]
 simp [zO7]
end Go.Sx

set_option linter.unusedVariables false
set_option linter.unusedSimpArgs false
namespace Go.Sx
structure zX where
 k:Int
 id:Int
 p0:Int
 p1:Int
 p2:Int
 v0:Int
 v1:Int
 v2:Int
 a:BitVec 16
instance : Inhabited zX:=⟨⟨0,0,0,0,0,0,0,0,0#16⟩⟩
structure zX.wf (r:zX):Prop where
 k : -9223372036854775808 ≤ r.k ∧ r.k ≤ 9223372036854775807
 id : -9223372036854775808 ≤ r.id ∧ r.id ≤ 9223372036854775807
 p0 : -9223372036854775808 ≤ r.p0 ∧ r.p0 ≤ 9223372036854775807
 p1 : -9223372036854775808 ≤ r.p1 ∧ r.p1 ≤ 9223372036854775807
 p2 : -9223372036854775808 ≤ r.p2 ∧ r.p2 ≤ 9223372036854775807
 v0 : -9223372036854775808 ≤ r.v0 ∧ r.v0 ≤ 9223372036854775807
 v1 : -9223372036854775808 ≤ r.v1 ∧ r.v1 ≤ 9223372036854775807
 v2 : -9223372036854775808 ≤ r.v2 ∧ r.v2 ≤ 9223372036854775807
theorem zX.wf.facts {r:zX} (h:r.wf):(-9223372036854775808 ≤ r.k ∧ r.k ≤ 9223372036854775807) ∧ (-9223372036854775808 ≤ r.id ∧ r.id ≤ 9223372036854775807) ∧ (-9223372036854775808 ≤ r.p0 ∧ r.p0 ≤ 9223372036854775807) ∧ (-9223372036854775808 ≤ r.p1 ∧ r.p1 ≤ 9223372036854775807) ∧ (-9223372036854775808 ≤ r.p2 ∧ r.p2 ≤ 9223372036854775807) ∧
 (-9223372036854775808 ≤ r.v0 ∧ r.v0 ≤ 9223372036854775807) ∧ (-9223372036854775808 ≤ r.v1 ∧ r.v1 ≤ 9223372036854775807) ∧ (-9223372036854775808 ≤ r.v2 ∧ r.v2 ≤ 9223372036854775807):=⟨h.k,h.id,h.p0,h.p1,h.p2,h.v0,h.v1,h.v2⟩
def zDq (r:zX):List Value:=[.int .i64 r.k,.int .i64 r.id,.int .i64 r.p0,.int .i64 r.p1,.int .i64 r.p2,.int .i64 r.v0,.int .i64 r.v1,.int .i64 r.v2,.int .u16 ((r.a.toNat:Nat):Int)]
def zX.num (r:zX):Nat → Int
 | 0=>r.p0
 | 1=>r.p1
 | 2=>r.p2
 | 3=>r.v0
 | 4=>r.v1
 | _=>r.v2
def zAw (r:zX):Bool:=r.p0 == 0 && r.p1 == 0 && r.p2 == 0 && r.v0 == 0 && r.v1 == 0 && r.v2 == 0 && (((r.a.toNat:Nat):Int) == 0)
def zAJ (r:zX):Nat:=if r.k < 0 ∨ 3 < r.k then 11 else if r.id < 0 ∨ 65535 < r.id then 3 else if r.k = 1 ∧ zAw r = true ∨ r.k = 2 ∧ zAw r = false then 2 else 0
theorem zNA (r:zX):zAG [.int .i64 r.k,.int .i64 r.id,.int .i64 r.p0,.int .i64 r.p1,.int .i64 r.p2,.int .i64 r.v0,.int .i64 r.v1,.int .i64 r.v2,.int .u16 ((r.a.toNat:Nat):Int)] [.int .i64 r.k,.int .i64 r.id,.int .i64 0,.int .i64 0,.int .i64 0,.int .i64 0,.int .i64 0,.int .i64 0,.int .u16 0] = zAw r:=by
 simp [zAG,vEq,zAw,Bool.and_assoc]
theorem zP4 (r:zX):zAJ r ≤ 11:=by
 unfold zAJ;repeat' split
 all_goals omega
theorem zNi {r:zX} (h:zAJ r = 0):0 ≤ r.k ∧ r.k ≤ 3 ∧ 0 ≤ r.id ∧ r.id ≤ 65535:=by
 unfold zAJ at h
 split at h
 · cases h
 · split at h
   · cases h
   · omega
def zDZ (x:Int):List zP:=zCQ (zGf x).toNat
theorem zAI (x:Int):(zDZ x).length ≤ 10 ∧ 1 ≤ (zDZ x).length:=by
 have:=zC2 (zGf x).toNat
 have:=zC9 (zGf x).toNat
 unfold zDZ
 simp only [zBX] at *
 omega
def zBY (r:zX):List zP:=zDZ r.p0 ++ zDZ r.p1 ++ zDZ r.p2 ++ zDZ r.v0 ++ zDZ r.v1 ++ zDZ r.v2 ++ zCQ r.a.toNat
def zAu (r:zX):Nat → BitVec 8
 | 0=>0#8
 | i + 1=>if r.num i = 0 then zAu r i else zAu r i ||| (1#8 <<< i)
def zAc (r:zX):Nat → List zP
 | 0=>[]
 | i + 1=>if r.num i = 0 then zAc r i else zAc r i ++ zDZ (r.num i)
def zCa (r:zX):BitVec 8:=if r.a = 0#16 then zAu r 6 else zAu r 6 ||| 64#8
def zG5 (r:zX):List zP:=if r.a = 0#16 then zAc r 6 else zAc r 6 ++ zCQ r.a.toNat
def zBM (r:zX):List zP:=zCa r :: zG5 r
def zEE (r:zX):List zP:=if r.k = 1 then zBM r else if r.k = 2 then [] else zBY r
def zA0 (r:zX) (last:Int):Nat:=if zAJ r ≠ 0 then zAJ r else if last < -1 ∨ 65535 < last then 3 else if r.id ≤ last then 10 else 0
def zAY (r:zX) (last:Int):List zP:=zCQ (BitVec.ofInt 64 (r.id - last - 1)).toNat ++ [BitVec.ofInt 8 r.k]
def zCf (r:zX) (last:Int):List zP:=if zA0 r last ≠ 0 then [] else zAY r last ++ zEE r
theorem zOP {r:zX} {i:Nat} (h:r.num i = 0):zAu r (i + 1) = zAu r i:=by simp [zAu,h]
theorem zNu {r:zX} {i:Nat} (h:r.num i ≠ 0):zAu r (i + 1) = zAu r i ||| (1#8 <<< i):=by simp [zAu,h]
theorem zHe {r:zX} {i:Nat} (h:r.num i = 0):zAc r (i + 1) = zAc r i:=by simp [zAc,h]
theorem zHn {r:zX} {i:Nat} (h:r.num i ≠ 0):zAc r (i + 1) = zAc r i ++ zDZ (r.num i):=by simp [zAc,h]
theorem zBS (r:zX):∀ i,(zAc r i).length ≤ 10 * i:=by
 intro i
 induction i with
 | zero=>simp [zAc]
 | succ i ih =>
   unfold zAc
   have:=zAI (r.num i)
   split
   · omega
   · simp;omega
theorem zEX (n:Nat):(zCQ n).length ≤ 10:=by have:=zC2 n;simpa [zBX] using this
theorem zIU (r:zX) (last:Int):(zCf r last).length ≤ 100:=by
 unfold zCf
 split
 · simp
 · have h1:=zEX (BitVec.ofInt 64 (r.id - last - 1)).toNat
   have h2:=zEX r.a.toNat
   have h3:=zBS r 6
   have n0:=zAI r.p0
   have n1:=zAI r.p1
   have n2:=zAI r.p2
   have n3:=zAI r.v0
   have n4:=zAI r.v1
   have n5:=zAI r.v2
   unfold zAY zEE
   split
   · unfold zBM zG5
     split <;> simp only [List.length_append,List.length_cons,List.length_nil] <;> omega
   · split
     · simp only [List.length_append,List.length_cons,List.length_nil];omega
     · unfold zBY;simp only [List.length_append,List.length_cons,List.length_nil];omega
theorem zNf {bs l:List zP} {x:zP} {m:Nat} (h:bs.length = m):(bs ++ x :: l).getD m 0 = x:=by
 subst h
 simp [List.getD_eq_getElem?_getD]
theorem zQ2 {bs l:List zP} {x y:zP} {m:Nat} (h:bs.length = m):(bs ++ x :: l).set m y = bs ++ y :: l:=by
 subst h
 simp
theorem zVG (a:BitVec 16):(a.setWidth 64).toNat = a.toNat:=by
 rw [BitVec.toNat_setWidth]
 have:=a.isLt
 omega
theorem zN7 {a:BitVec 16} (h:((a.toNat:Nat):Int) = 0):a = 0#16:=BitVec.eq_of_toNat_eq (by simpa using h)
theorem zbi {a:BitVec 16} (h:((a.toNat:Nat):Int) ≠ 0):a ≠ 0#16:=fun e=>h (by subst e;rfl)
theorem zBZ {r:zX} (h:((r.a.toNat:Nat):Int) = 0):zBM r = zAu r 6 :: zAc r 6:=by
 unfold zBM zCa zG5
 rw [if_pos (zN7 h),if_pos (zN7 h)]
theorem zBd {r:zX} (h:((r.a.toNat:Nat):Int) ≠ 0):zBM r = (zAu r 6 ||| 64#8) :: (zAc r 6 ++ zCQ r.a.toNat):=by
 unfold zBM zCa zG5
 rw [if_neg (zbi h),if_neg (zbi h)]
theorem zIx (r:zX):(zBM r).length ≤ 71:=by
 have h2:=zEX r.a.toNat
 have h3:=zBS r 6
 unfold zBM zG5
 split <;> simp only [List.length_append,List.length_cons] <;> omega
theorem zKw (r:zX):(zBY r).length ≤ 70:=by
 have h2:=zEX r.a.toNat
 have n0:=zAI r.p0
 have n1:=zAI r.p1
 have n2:=zAI r.p2
 have n3:=zAI r.v0
 have n4:=zAI r.v1
 have n5:=zAI r.v2
 unfold zBY
 simp only [List.length_append]
 omega
theorem zDh {r:zX} {last:Int} (h:zA0 r last ≠ 0):zCf r last = []:=by unfold zCf;rw [if_pos h]
theorem zBL {r:zX} {last:Int} (h:zA0 r last = 0) (hk:r.k = 0 ∨ r.k = 3):zCf r last = zAY r last ++ zBY r:=by
 unfold zCf zEE
 rw [if_neg (by omega),if_neg (by omega),if_neg (by omega)]
theorem zAS {r:zX} {last:Int} (h:zA0 r last = 0) (hk:r.k = 1):zCf r last = zAY r last ++ zBM r:=by
 unfold zCf zEE
 rw [if_neg (by omega),if_pos hk]
theorem zAy {r:zX} {last:Int} (h:zA0 r last = 0) (hk:r.k = 2):zCf r last = zAY r last:=by
 unfold zCf zEE
 rw [if_neg (by omega),if_neg (by omega),if_pos hk,List.append_nil]
theorem zB7 {r:zX} {last:Int} (h:zAJ r ≠ 0):zA0 r last = zAJ r:=by unfold zA0;rw [if_pos h]
theorem zCC {r:zX} {last:Int} (h:zAJ r = 0) (h2:last < -1 ∨ 65535 < last):zA0 r last = 3:=by unfold zA0;rw [if_neg (by omega),if_pos h2]
theorem zCB {r:zX} {last:Int} (h:zAJ r = 0) (h2:¬ (last < -1 ∨ 65535 < last)) (h3:r.id ≤ last):zA0 r last = 10:=by unfold zA0;rw [if_neg (by omega),if_neg h2,if_pos h3]
theorem zCr {r:zX} {last:Int} (h:zAJ r = 0) (h2:¬ (last < -1 ∨ 65535 < last)) (h3:¬ r.id ≤ last):zA0 r last = 0:=by unfold zA0;rw [if_neg (by omega),if_neg h2,if_neg h3]
theorem zI0 (r:zX) (last:Int):(zAY r last).length ≤ 11:=by
 have h1:=zEX (BitVec.ofInt 64 (r.id - last - 1)).toNat
 unfold zAY
 simp only [List.length_append,List.length_cons,List.length_nil]
 omega
theorem zC6 {r:zX} {last:Int} (h:zA0 r last = 0):0 ≤ r.id ∧ r.id ≤ 65535 ∧ -1 ≤ last ∧ last < r.id:=by
 unfold zA0 at h
 split at h
 · omega
 · rename_i h0
   have h1:=zNi (r:=r) (by omega)
   split at h
   · cases h
   · split at h
     · cases h
     · omega
end Go.Sx

set_option linter.unusedVariables false
set_option linter.unusedSimpArgs false
namespace Go.Sx
def zWp (m:BitVec 8):Nat → BitVec 8
 | 0=>m
 | i + 1=>zWp m i / 2#8
theorem zS6 (m:BitVec 8):∀ i,zWp m i = m >>> i
 | 0=>by simp [zWp]
 | i + 1=>by
   unfold zWp
   rw [zS6 m i]
   apply BitVec.eq_of_toNat_eq
   rw [BitVec.toNat_udiv,BitVec.toNat_ushiftRight,BitVec.toNat_ushiftRight,Nat.shiftRight_succ]
   rfl
def zBl (m:BitVec 8) (i:Nat):Bool:=((zWp m i).toNat % 2) == 1
def upI (bs:List zP) (m:BitVec 8) (i:Nat) (R:Rs):Int × Rs :=
 if zBl m i = true then ((zAB bs R).1,if (zAB bs R).1 = 0 then zBi 7 (zAB bs R).2 else (zAB bs R).2) else (0,R)
def upS (bs:List zP) (m:BitVec 8) (R:Rs):Nat → Rs
 | 0=>R
 | i + 1=>(upI bs m i (upS bs m R i)).2
def upX (bs:List zP) (m:BitVec 8) (R:Rs) (i:Nat):Int:=(upI bs m i (upS bs m R i)).1
def upA (bs:List zP) (m:BitVec 8) (R:Rs):BitVec 16 × Rs :=
 if zBl m 6 = true then (((zN bs 65535#64 R).1).setWidth 16,if (zN bs 65535#64 R).1 = 0#64 then zBi 7 (zN bs 65535#64 R).2 else (zN bs 65535#64 R).2) else (0#16,R)
def zA3 (bs:List zP) (k id:Int) (R:Rs):zX × Rs :=
 let q:=zG bs R
 if q.1.toNat = 0 ∨ 127 < q.1.toNat then (⟨k,id,0,0,0,0,0,0,0#16⟩,zBi 7 q.2)
 else (⟨k,id,upX bs q.1 q.2 0,upX bs q.1 q.2 1,upX bs q.1 q.2 2,upX bs q.1 q.2 3,upX bs q.1 q.2 4,upX bs q.1 q.2 5,(upA bs q.1 (upS bs q.1 q.2 6)).1⟩,(upA bs q.1 (upS bs q.1 q.2 6)).2)
def nS (bs:List zP) (R:Rs):Nat → Rs
 | 0=>R
 | i + 1=>(zAB bs (nS bs R i)).2
def nX (bs:List zP) (R:Rs) (i:Nat):Int:=(zAB bs (nS bs R i)).1
def zCF (bs:List zP) (k id:Int) (R:Rs):zX × Rs :=
 (⟨k,id,nX bs R 0,nX bs R 1,nX bs R 2,nX bs R 3,nX bs R 4,nX bs R 5,((zN bs 65535#64 (nS bs R 6)).1).setWidth 16⟩,(zN bs 65535#64 (nS bs R 6)).2)
def zA8 (bs:List zP) (k id:Int) (R:Rs):zX × Rs :=
 if k = 0 ∨ k = 3 then zCF bs k id R else if k = 1 then zA3 bs k id R else if k = 2 then (⟨k,id,0,0,0,0,0,0,0#16⟩,R) else (⟨k,id,0,0,0,0,0,0,0#16⟩,zBi 11 R)
def zOL : zX:=⟨0,0,0,0,0,0,0,0,0#16⟩
def zP1 (bs:List zP) (last:Int) (R:Rs):BitVec 64 × Rs:=zN bs (BitVec.ofInt 64 (65534 - last)) R
def zEa (bs:List zP) (last:Int) (R:Rs):zX × Rs :=
 zA8 bs (((zG bs (zP1 bs last R).2).1.toNat:Nat):Int) (last + 1 + (((zP1 bs last R).1.toNat:Nat):Int)) (zG bs (zP1 bs last R).2).2
def zAH (bs:List zP) (last:Int) (R:Rs):zX × Nat × Rs :=
 if last < -1 ∨ 65535 < last then (zOL,3,R) else if last = 65535 then (zOL,(zBi 10 R).e,zBi 10 R)
 else if (zEa bs last R).2.e ≠ 0 then (zOL,(zEa bs last R).2.e,(zEa bs last R).2) else ((zEa bs last R).1,0,(zEa bs last R).2)
def zct (r:zX):Nat → List zP
 | 0=>[]
 | i + 1=>zct r i ++ zDZ (r.num i)
theorem zG9 (r:zX):zct r 6 = zDZ r.p0 ++ zDZ r.p1 ++ zDZ r.p2 ++ zDZ r.v0 ++ zDZ r.v1 ++ zDZ r.v2:=rfl
def upQ (bs:List zP) (m:BitVec 8) (R:Rs) (i j:Nat):Int:=if j < i then upX bs m R j else 0
section
variable {bs : List zP} {m : BitVec 8} {R : Rs} {i : Nat} {p q z : Value}
theorem zbL (h:upX bs m R i = 0) (j:Nat):upQ bs m R i j = upQ bs m R (i + 1) j:=by
 unfold upQ
 by_cases h1:j < i
 · rw [if_pos h1,if_pos (by omega)]
 · by_cases h2:j = i
   · subst h2;rw [if_neg h1,if_pos (by omega),h]
   · rw [if_neg h1,if_neg (by omega)]
theorem six {i:Nat} (h:i < 6):i = 0 ∨ i = 1 ∨ i = 2 ∨ i = 3 ∨ i = 4 ∨ i = 5:=by omega
theorem zXG (h:i < 6) : [p,q,zI (upQ bs m R i 0),zI (upQ bs m R i 1),zI (upQ bs m R i 2),zI (upQ bs m R i 3),zI (upQ bs m R i 4),zI (upQ bs m R i 5),z].set (2 + i) (zI (upX bs m R i)) = [p,q,zI (upQ bs m R (i + 1) 0),zI (upQ bs m R (i + 1) 1),zI (upQ bs m R (i + 1) 2),zI (upQ bs m R (i + 1) 3),zI (upQ bs m R (i + 1) 4),zI (upQ bs m R (i + 1) 5),z]:=by
 rcases six h with rfl | rfl | rfl | rfl | rfl | rfl <;> simp [upQ]
theorem zZX (h:i < 6) : [p,q,zI (upQ bs m R (i + 1) 0),zI (upQ bs m R (i + 1) 1),zI (upQ bs m R (i + 1) 2),zI (upQ bs m R (i + 1) 3),zI (upQ bs m R (i + 1) 4),zI (upQ bs m R (i + 1) 5),z][2 + i]? = some (zI (upX bs m R i)):=by
 rcases six h with rfl | rfl | rfl | rfl | rfl | rfl <;> simp [upQ]
theorem zWq {g:Nat} (h:i < 6) : [pt g 2,pt g 3,pt g 4,pt g 5,pt g 6,pt g 7][((i:Nat):Int).toNat]? = some (pt g (2 + i)):=by
 rcases six h with rfl | rfl | rfl | rfl | rfl | rfl <;> rfl
theorem zZC {r:zX} (hw:r.wf) (h:i < 6) : -9223372036854775808 ≤ r.num i ∧ r.num i ≤ 9223372036854775807:=by
 rcases six h with rfl | rfl | rfl | rfl | rfl | rfl
 · exact hw.p0
 · exact hw.p1
 · exact hw.p2
 · exact hw.v0
 · exact hw.v1
 · exact hw.v2
theorem zRH {r:zX} (h:i < 6) : [p,q,zI r.p0,zI r.p1,zI r.p2,zI r.v0,zI r.v1,zI r.v2,z][2 + i]? = some (zI (r.num i)):=by
 rcases six h with rfl | rfl | rfl | rfl | rfl | rfl <;> rfl
end
theorem zVu {m:BitVec 8} {i:Nat}:zBl m i = true ↔ (zWp m i).toNat % 2 = 1:=by unfold zBl;simp
theorem zWy (m:BitVec 8) (i:Nat):((m >>> i) &&& 1#8).toNat = (zWp m i).toNat % 2:=by
 rw [BitVec.toNat_and,show (1#8).toNat = 1 from rfl,Nat.and_one_is_mod,zS6]
theorem zY1 {m:BitVec 8} {i:Nat} (h:((((m >>> i) &&& 1#8).toNat:Nat):Int) = 0):zBl m i = false:=by
 rw [zWy] at h
 unfold zBl
 rw [show (zWp m i).toNat % 2 = 0 by omega]
 rfl
theorem zZJ {m:BitVec 8} {i:Nat} (h:((((m >>> i) &&& 1#8).toNat:Nat):Int) ≠ 0):zBl m i = true:=by
 rw [zWy] at h
 rw [zVu]
 omega
theorem zaX (m:BitVec 8):(m &&& 64#8).toNat = 0 ↔ zBl m 6 = false:=by
 have key:∀ m:BitVec 8,(m &&& 64#8).toNat = 0 ↔ zBl m 6 = false:=by decide +kernel
 exact key m
theorem zVN {m:BitVec 8} (h:(((m &&& 64#8).toNat:Nat):Int) = 0):zBl m 6 = false:=(zaX m).1 (by omega)
theorem zTc {m:BitVec 8} (h:(((m &&& 64#8).toNat:Nat):Int) ≠ 0):zBl m 6 = true:=by
 cases hb:zBl m 6 with
 | true=>rfl
 | false=>exact absurd ((zaX m).2 hb) (by omega)
theorem zXj {bs:List zP} {m:BitVec 8} {R:Rs} (h:zBl m 6 = false):upA bs m R = (0#16,R):=by unfold upA;rw [if_neg (by rw [h];decide)]
theorem zXY {bs:List zP} {m:BitVec 8} {R:Rs} (h:zBl m 6 = true) (h2:(zN bs 65535#64 R).1.toNat = 0):upA bs m R = ((zN bs 65535#64 R).1.setWidth 16,zBi 7 (zN bs 65535#64 R).2):=by
 unfold upA
 rw [if_pos h,if_pos (BitVec.eq_of_toNat_eq h2)]
theorem zZB {bs:List zP} {m:BitVec 8} {R:Rs} (h:zBl m 6 = true) (h2:(zN bs 65535#64 R).1.toNat ≠ 0):upA bs m R = ((zN bs 65535#64 R).1.setWidth 16,(zN bs 65535#64 R).2):=by
 unfold upA
 rw [if_pos h,if_neg (fun e=>h2 (by rw [e];rfl))]
theorem zc4 {X:BitVec 64} (h:X.toNat ≤ 65535):(X.setWidth 16).toNat = X.toNat:=by
 rw [BitVec.toNat_setWidth]
 omega
theorem zIf {X:BitVec 64} (h:X.toNat ≤ 65535):X.toInt = ((X.toNat:Nat):Int):=by
 rw [BitVec.toInt_eq_toNat_cond,if_pos (by omega)]
theorem zEI {x:Int} (h:0 ≤ x) (h2:x ≤ 9223372036854775807):(((BitVec.ofInt 64 x).toNat:Nat):Int) = x:=by
 rw [BitVec.toNat_ofInt]
 omega
theorem zc2 {bs:List zP} {m:BitVec 8} {R:Rs} {i:Nat} (h:zBl m i = true) (h2:(zAB bs (upS bs m R i)).1 = 0):upS bs m R (i + 1) = zBi 7 (zAB bs (upS bs m R i)).2:=by
 show (upI _ _ _ _).2 = _
 unfold upI
 rw [if_pos h]
 dsimp only
 rw [if_pos h2]
theorem zc6 {bs:List zP} {m:BitVec 8} {R:Rs} {i:Nat} (h:zBl m i = true) (h2:(zAB bs (upS bs m R i)).1 ≠ 0):upS bs m R (i + 1) = (zAB bs (upS bs m R i)).2:=by
 show (upI _ _ _ _).2 = _
 unfold upI
 rw [if_pos h]
 dsimp only
 rw [if_neg h2]
theorem zb7 {bs:List zP} {m:BitVec 8} {R:Rs} {i:Nat} (h:zBl m i = true):upX bs m R i = (zAB bs (upS bs m R i)).1:=by
 unfold upX upI
 rw [if_pos h]
theorem zcn {bs:List zP} {m:BitVec 8} {R:Rs} {i:Nat} (h:zBl m i = false):upS bs m R (i + 1) = upS bs m R i:=by
 show (upI _ _ _ _).2 = _
 unfold upI
 rw [if_neg (by rw [h];decide)]
theorem zcV {bs:List zP} {m:BitVec 8} {R:Rs} {i:Nat} (h:zBl m i = false):upX bs m R i = 0:=by
 unfold upX upI
 rw [if_neg (by rw [h];decide)]
theorem zbZ {bs:List zP} {m:BitVec 8} {i:Nat} {R:Rs} (h:R.p ≤ bs.length):(upI bs m i R).2.p ≤ bs.length ∧ R.p ≤ (upI bs m i R).2.p ∧ (upI bs m i R).2.p ≤ R.p + 10:=by
 unfold upI
 have h1:=zDM h
 split
 · dsimp only
   split
   · have:=zBU (e:=7) h1.1;omega
   · omega
 · dsimp only;omega
theorem zLZ {bs:List zP} {m:BitVec 8} {R:Rs} (h:R.p ≤ bs.length):∀ i,(upS bs m R i).p ≤ bs.length ∧ R.p ≤ (upS bs m R i).p ∧ (upS bs m R i).p ≤ R.p + 10 * i
 | 0=>by simp [upS,h]
 | i + 1=>by
   have h1:=zLZ h i (m:=m)
   have h2:=zbZ (m:=m) (i:=i) h1.1
   show (upI _ _ _ _).2.p ≤ _ ∧ _ ≤ (upI _ _ _ _).2.p ∧ (upI _ _ _ _).2.p ≤ _
   omega
theorem zaA {bs:List zP} {R:Rs} (h:R.p ≤ bs.length):∀ i,(nS bs R i).p ≤ bs.length ∧ R.p ≤ (nS bs R i).p ∧ (nS bs R i).p ≤ R.p + 10 * i
 | 0=>by simp [nS,h]
 | i + 1=>by
   have h1:=zaA h i
   have h2:=zDM h1.1
   show (zAB _ _).2.p ≤ _ ∧ _ ≤ (zAB _ _).2.p ∧ (zAB _ _).2.p ≤ _
   omega
theorem zau {bs:List zP} {m:BitVec 8} {R:Rs} (h:R.p ≤ bs.length):(upA bs m R).2.p ≤ bs.length ∧ R.p ≤ (upA bs m R).2.p:=by
 unfold upA
 have h1:=zA1 (X:=65535#64) h
 split
 · dsimp only
   split
   · have:=zBU (e:=7) h1.1;omega
   · omega
 · dsimp only;omega
section
variable {bs : List zP} {m : BitVec 8} {R : Rs} {i : Nat}
end
theorem zLF {bs:List zP} {k id:Int} {R:Rs} (h:R.p ≤ bs.length):(zA3 bs k id R).2.p ≤ bs.length ∧ R.p ≤ (zA3 bs k id R).2.p:=by
 have h1:=zEM h
 have h2:=zLZ (m:=(zG bs R).1) h1.1 6
 have h3:=zau (m:=(zG bs R).1) h2.1
 have h4:=zBU (e:=7) h1.1
 unfold zA3
 dsimp only
 split <;> (dsimp only;omega)
theorem zKe {bs:List zP} {k id:Int} {R:Rs} (h:R.p ≤ bs.length):(zCF bs k id R).2.p ≤ bs.length ∧ R.p ≤ (zCF bs k id R).2.p:=by
 have h2:=zaA h 6
 have h3:=zA1 (X:=65535#64) h2.1
 unfold zCF
 dsimp only;omega
theorem zRI {bs:List zP} {k id:Int} {R:Rs} (h:R.p ≤ bs.length):(zA8 bs k id R).2.p ≤ bs.length ∧ R.p ≤ (zA8 bs k id R).2.p:=by
 unfold zA8
 split
 · exact zKe h
 · split
   · exact zLF h
   · split
     · dsimp only;omega
     · have:=zBU (e:=11) h;dsimp only;omega
theorem zOg {bs:List zP} {last:Int} {R:Rs} (h:R.p ≤ bs.length):(zAH bs last R).2.2.p ≤ bs.length ∧ R.p ≤ (zAH bs last R).2.2.p:=by
 have h1:(zP1 bs last R).2.p ≤ bs.length ∧ R.p ≤ (zP1 bs last R).2.p:=by
   have:=zA1 (X:=BitVec.ofInt 64 (65534 - last)) h
   unfold zP1
   omega
 have h2:=zEM h1.1
 have h3:(zEa bs last R).2.p ≤ bs.length ∧ (zG bs (zP1 bs last R).2).2.p ≤ (zEa bs last R).2.p:=zRI h2.1
 have h4:=zBU (e:=10) h
 unfold zAH
 repeat' split
 all_goals (dsimp only;omega)
theorem zMh {α β:Type} {p x:α × β} (h:p = x):p = (x.1,x.2):=h
theorem zGT (bs:List zP) (last:Int) (R:Rs):zEa bs last R = zA8 bs (((zG bs (zN bs (BitVec.ofInt 64 (65534 - last)) R).2).1.toNat:Nat):Int) (last + 1 + (((zN bs (BitVec.ofInt 64 (65534 - last)) R).1.toNat:Nat):Int)) (zG bs (zN bs (BitVec.ofInt 64 (65534 - last)) R).2).2:=rfl
theorem zG8 {bs:List zP} {k id:Int} {R:Rs} (h:k = 0 ∨ k = 3):zA8 bs k id R = zCF bs k id R:=by unfold zA8;rw [if_pos h]
theorem zH9 {bs:List zP} {k id:Int} {R:Rs} (h:k = 1):zA8 bs k id R = zA3 bs k id R:=by unfold zA8;rw [if_neg (by omega),if_pos h]
theorem zID {bs:List zP} {k id:Int} {R:Rs} (h:k = 2):zA8 bs k id R = (⟨k,id,0,0,0,0,0,0,0#16⟩,R):=by unfold zA8;rw [if_neg (by omega),if_neg (by omega),if_pos h]
theorem zPa {bs:List zP} {k id:Int} {R:Rs} (h:¬ (k = 0 ∨ k = 1 ∨ k = 2 ∨ k = 3)):zA8 bs k id R = (⟨k,id,0,0,0,0,0,0,0#16⟩,zBi 11 R):=by unfold zA8;rw [if_neg (by omega),if_neg (by omega),if_neg (by omega)]
theorem zEj {bs:List zP} {last:Int} {R:Rs} (h:last < -1 ∨ 65535 < last):zAH bs last R = (zOL,3,R):=by unfold zAH;rw [if_pos h]
theorem zEy {bs:List zP} {last:Int} {R:Rs} (h:last = 65535):zAH bs last R = (zOL,(zBi 10 R).e,zBi 10 R):=by unfold zAH;rw [if_neg (by omega),if_pos h]
theorem zD1 {bs:List zP} {last:Int} {R RR:Rs} {rr:zX} (h:¬ (last < -1 ∨ 65535 < last)) (h2:last ≠ 65535) (hr:zEa bs last R = (rr,RR)) (he:RR.e ≠ 0):zAH bs last R = (zOL,RR.e,RR):=by
 unfold zAH
 rw [if_neg h,if_neg h2,hr,if_pos he]
theorem zFT {bs:List zP} {last:Int} {R RR:Rs} {rr:zX} (h:¬ (last < -1 ∨ 65535 < last)) (h2:last ≠ 65535) (hr:zEa bs last R = (rr,RR)) (he:RR.e = 0):zAH bs last R = (rr,0,RR):=by
 unfold zAH
 rw [if_neg h,if_neg h2,hr,if_neg (by simpa using he)]
theorem zJL {bs:List zP} {k id:Int} {R:Rs} (h:(zG bs R).1.toNat = 0 ∨ 127 < (zG bs R).1.toNat):zA3 bs k id R = (⟨k,id,0,0,0,0,0,0,0#16⟩,zBi 7 (zG bs R).2):=by
 unfold zA3
 dsimp only
 rw [if_pos h]
theorem zIh {bs:List zP} {k id:Int} {R:Rs} {A:BitVec 16} {T:Rs} (h:¬ ((zG bs R).1.toNat = 0 ∨ 127 < (zG bs R).1.toNat)) (hA:upA bs (zG bs R).1 (upS bs (zG bs R).1 (zG bs R).2 6) = (A,T)):zA3 bs k id R = (⟨k,id,upX bs (zG bs R).1 (zG bs R).2 0,upX bs (zG bs R).1 (zG bs R).2 1,upX bs (zG bs R).1 (zG bs R).2 2,upX bs (zG bs R).1 (zG bs R).2 3,upX bs (zG bs R).1 (zG bs R).2 4,upX bs (zG bs R).1 (zG bs R).2 5,A⟩,T):=by
 unfold zA3
 dsimp only
 rw [if_neg h,hA]
theorem zRu {bs:List zP} {last:Int} {R:Rs} (h:R.p ≤ bs.length) (h1 : -1 ≤ last) (h2:last < 65535):(((zN bs (BitVec.ofInt 64 (65534 - last)) R).1.toNat:Nat):Int) ≤ 65534 - last:=by
 have h3:=(zA1 (X:=BitVec.ofInt 64 (65534 - last)) h).2.2.2.1
 have h4:=zEI (x:=65534 - last) (by omega) (by omega)
 omega
theorem zVV {bs:List zP} {last:Int} {R:Rs} (h:R.p ≤ bs.length) (h1 : -1 ≤ last) (h2:last < 65535):(zN bs (BitVec.ofInt 64 (65534 - last)) R).1.toInt = (((zN bs (BitVec.ofInt 64 (65534 - last)) R).1.toNat:Nat):Int):=by
 have:=zRu h h1 h2
 by_cases h5:65534 - last ≤ 65535
 · exact zIf (by omega)
 · exact zIf (by omega)
end Go.Sx

set_option linter.unusedVariables false
set_option linter.unusedSimpArgs false
namespace Go.Sx
structure zS where
 id:Int
 p0:Int
 p1:Int
 p2:Int
 v0:Int
 v1:Int
 v2:Int
 a:BitVec 16
 g:BitVec 8
instance : Inhabited zS:=⟨⟨0,0,0,0,0,0,0,0#16,0#8⟩⟩
structure zS.wf (r:zS):Prop where
 id : -9223372036854775808 ≤ r.id ∧ r.id ≤ 9223372036854775807
 p0 : -9223372036854775808 ≤ r.p0 ∧ r.p0 ≤ 9223372036854775807
 p1 : -9223372036854775808 ≤ r.p1 ∧ r.p1 ≤ 9223372036854775807
 p2 : -9223372036854775808 ≤ r.p2 ∧ r.p2 ≤ 9223372036854775807
 v0 : -9223372036854775808 ≤ r.v0 ∧ r.v0 ≤ 9223372036854775807
 v1 : -9223372036854775808 ≤ r.v1 ∧ r.v1 ≤ 9223372036854775807
 v2 : -9223372036854775808 ≤ r.v2 ∧ r.v2 ≤ 9223372036854775807
def zA9 (r:zS):List Value:=[.int .i64 r.id,.int .i64 r.p0,.int .i64 r.p1,.int .i64 r.p2,.int .i64 r.v0,.int .i64 r.v1,.int .i64 r.v2,.int .u16 ((r.a.toNat:Nat):Int),.int .u8 ((r.g.toNat:Nat):Int)]
theorem zBV (r:zS):(zA9 r).length = 9:=rfl
def zDC : zS:=⟨0,0,0,0,0,0,0,0#16,0#8⟩
def zI2 (a b:zS):Bool:=zAG (zA9 a) (zA9 b)
theorem zNL {r s:zS}:zAG (zA9 r) (zA9 s) = true ↔ r = s:=by
 constructor
 · intro h
   cases r;cases s
   simp only [zAG,zA9,vEq,Bool.and_eq_true,beq_iff_eq,Bool.and_true,Bool.true_and] at h
   obtain ⟨h1,h2,h3,h4,h5,h6,h7,h8,h9⟩:=h
   have h8':=BitVec.eq_of_toNat_eq (Int.ofNat.inj h8)
   have h9':=BitVec.eq_of_toNat_eq (Int.ofNat.inj h9)
   subst h1 h2 h3 h4 h5 h6 h7 h8' h9'
   rfl
 · rintro rfl
   simp [zAG,zA9,vEq]
def zAD (a b:zS):zX × Bool :=
 if zI2 a b = true then (zOL,false)
 else if a.g.toNat = b.g.toNat then (⟨1,b.id,IntKind.i64.wrap (b.p0 - a.p0),IntKind.i64.wrap (b.p1 - a.p1),IntKind.i64.wrap (b.p2 - a.p2),IntKind.i64.wrap (b.v0 - a.v0),IntKind.i64.wrap (b.v1 - a.v1),IntKind.i64.wrap (b.v2 - a.v2),b.a - a.a⟩,true)
 else (⟨3,b.id,b.p0,b.p1,b.p2,b.v0,b.v1,b.v2,b.a⟩,true)
def zT (a:zS) (r:zX):zS × Nat :=
 if zAJ r ≠ 0 then (zDC,zAJ r) else if r.id ≠ a.id ∨ r.k = 0 ∨ r.k = 2 then (zDC,15)
 else if r.k = 3 then (⟨a.id,r.p0,r.p1,r.p2,r.v0,r.v1,r.v2,r.a,a.g + 1#8⟩,0)
 else (⟨a.id,IntKind.i64.wrap (a.p0 + r.p0),IntKind.i64.wrap (a.p1 + r.p1),IntKind.i64.wrap (a.p2 + r.p2),IntKind.i64.wrap (a.v0 + r.v0),IntKind.i64.wrap (a.v1 + r.v1),IntKind.i64.wrap (a.v2 + r.v2),a.a + r.a,a.g⟩,0)
theorem zDx {x y:Int} (hy : -9223372036854775808 ≤ y ∧ y ≤ 9223372036854775807):IntKind.i64.wrap (x + IntKind.i64.wrap (y - x)) = y:=by
 simp only [IntKind.wrap_i64]
 omega
theorem zD4 {x y:Int} (hx : -9223372036854775808 ≤ x ∧ x ≤ 9223372036854775807) (hy : -9223372036854775808 ≤ y ∧ y ≤ 9223372036854775807) (h:IntKind.i64.wrap (y - x) = 0):y = x:=by
 simp only [IntKind.wrap_i64] at h
 omega
theorem zBs (x:Int) : -9223372036854775808 ≤ IntKind.i64.wrap x ∧ IntKind.i64.wrap x ≤ 9223372036854775807:=by
 simp only [IntKind.wrap_i64]
 omega
theorem zFB {a b:zS} (h:zI2 a b = true):zAD a b = (zOL,false):=by unfold zAD;rw [if_pos h]
theorem zDJ {a b:zS} (h:zI2 a b = false) (h2:a.g.toNat = b.g.toNat):zAD a b = (⟨1,b.id,IntKind.i64.wrap (b.p0 - a.p0),IntKind.i64.wrap (b.p1 - a.p1),IntKind.i64.wrap (b.p2 - a.p2),IntKind.i64.wrap (b.v0 - a.v0),IntKind.i64.wrap (b.v1 - a.v1),IntKind.i64.wrap (b.v2 - a.v2),b.a - a.a⟩,true):=by
 unfold zAD
 rw [if_neg (by rw [h];decide),if_pos h2]
theorem zDO {a b:zS} (h:zI2 a b = false) (h2:a.g.toNat ≠ b.g.toNat):zAD a b = (⟨3,b.id,b.p0,b.p1,b.p2,b.v0,b.v1,b.v2,b.a⟩,true):=by
 unfold zAD
 rw [if_neg (by rw [h];decide),if_neg h2]
theorem zPU {a b:zS} (hb:b.wf):(zAD a b).1.wf:=by
 unfold zAD
 split
 · exact ⟨by decide,by decide,by decide,by decide,by decide,by decide,by decide,by decide⟩
 · split
   · exact ⟨(show -9223372036854775808 ≤ (1:Int) ∧ (1:Int) ≤ 9223372036854775807 by decide),hb.id,zBs _,zBs _,zBs _,zBs _,zBs _,zBs _⟩
   · exact ⟨(show -9223372036854775808 ≤ (3:Int) ∧ (3:Int) ≤ 9223372036854775807 by decide),hb.id,hb.p0,hb.p1,hb.p2,hb.v0,hb.v1,hb.v2⟩
theorem zB9 {a:zS} {r:zX} (h:zAJ r ≠ 0):zT a r = (zDC,zAJ r):=by unfold zT;rw [if_pos h]
theorem zCY {a:zS} {r:zX} (h:zAJ r = 0) (h2:r.id ≠ a.id ∨ r.k = 0 ∨ r.k = 2):zT a r = (zDC,15):=by unfold zT;rw [if_neg (by omega),if_pos h2]
theorem zBP {a:zS} {r:zX} (h:zAJ r = 0) (h2:¬ (r.id ≠ a.id ∨ r.k = 0 ∨ r.k = 2)) (h3:r.k = 3):zT a r = (⟨a.id,r.p0,r.p1,r.p2,r.v0,r.v1,r.v2,r.a,a.g + 1#8⟩,0):=by
 unfold zT
 rw [if_neg (by omega),if_neg h2,if_pos h3]
theorem zBR {a:zS} {r:zX} (h:zAJ r = 0) (h2:¬ (r.id ≠ a.id ∨ r.k = 0 ∨ r.k = 2)) (h3:r.k ≠ 3):zT a r = (⟨a.id,IntKind.i64.wrap (a.p0 + r.p0),IntKind.i64.wrap (a.p1 + r.p1),IntKind.i64.wrap (a.p2 + r.p2),IntKind.i64.wrap (a.v0 + r.v0),IntKind.i64.wrap (a.v1 + r.v1),IntKind.i64.wrap (a.v2 + r.v2),a.a + r.a,a.g⟩,0):=by
 unfold zT
 rw [if_neg (by omega),if_neg h2,if_neg h3]
theorem zJF (x y:BitVec 16):x + (y - x) = y:=by
 apply BitVec.eq_of_toNat_eq
 simp only [BitVec.toNat_add,BitVec.toNat_sub]
 have:=x.isLt
 have:=y.isLt
 omega
theorem zPR {A B : zS} (ha : A.wf) (hb : B.wf) (hid : 0 ≤ A.id ∧ A.id ≤ 65535) (he : B.id = A.id) (hg : B.g = A.g ∨ B.g = A.g + 1#8) (hne : (zAD A B).2 = true) :
   zT A (zAD A B).1 = (B,0) ∧ zAJ (zAD A B).1 = 0 ∧ zI2 A B = false ∧ ((zAD A B).1.k = 3 ↔ B.g ≠ A.g) ∧ ((zAD A B).1.k = 1 ∨ (zAD A B).1.k = 3) ∧ (zAD A B).1.id = B.id:=by
 cases heq:zI2 A B with
 | true=>rw [zFB heq] at hne;cases hne
 | false =>
   have hAB:A ≠ B:=fun e=>by
     rw [show zI2 A B = true from zNL.2 e] at heq
     cases heq
   by_cases h2:A.g.toNat = B.g.toNat
   · have hgg:B.g = A.g:=(BitVec.eq_of_toNat_eq h2).symm
     have hemp:zAw (⟨1,B.id,IntKind.i64.wrap (B.p0 - A.p0),IntKind.i64.wrap (B.p1 - A.p1),IntKind.i64.wrap (B.p2 - A.p2),IntKind.i64.wrap (B.v0 - A.v0),IntKind.i64.wrap (B.v1 - A.v1),IntKind.i64.wrap (B.v2 - A.v2),B.a - A.a⟩ : zX) = false:=by
       cases hx:zAw (⟨1,B.id,IntKind.i64.wrap (B.p0 - A.p0),IntKind.i64.wrap (B.p1 - A.p1),IntKind.i64.wrap (B.p2 - A.p2),IntKind.i64.wrap (B.v0 - A.v0),IntKind.i64.wrap (B.v1 - A.v1),IntKind.i64.wrap (B.v2 - A.v2),B.a - A.a⟩ : zX) with
       | false=>rfl
       | true =>
         exfalso
         simp only [zAw,Bool.and_eq_true,beq_iff_eq] at hx
         obtain ⟨⟨⟨⟨⟨⟨e0,e1⟩,e2⟩,e3⟩,e4⟩,e5⟩,e6⟩:=hx
         have e6':B.a - A.a = 0#16:=zN7 e6
         have e7:B.a = A.a:=by
           have:=zJF A.a B.a
           rw [e6'] at this
           simpa using this.symm
         apply hAB
         have f0:=zD4 ha.p0 hb.p0 e0
         have f1:=zD4 ha.p1 hb.p1 e1
         have f2:=zD4 ha.p2 hb.p2 e2
         have f3:=zD4 ha.v0 hb.v0 e3
         have f4:=zD4 ha.v1 hb.v1 e4
         have f5:=zD4 ha.v2 hb.v2 e5
         cases A;cases B;simp_all
     have hc:zAJ (⟨1,B.id,IntKind.i64.wrap (B.p0 - A.p0),IntKind.i64.wrap (B.p1 - A.p1),IntKind.i64.wrap (B.p2 - A.p2),IntKind.i64.wrap (B.v0 - A.v0),IntKind.i64.wrap (B.v1 - A.v1),IntKind.i64.wrap (B.v2 - A.v2),B.a - A.a⟩ : zX) = 0:=by
       unfold zAJ
       rw [hemp]
       dsimp only
       rw [if_neg (by omega),if_neg (by omega),if_neg (by simp)]
     rw [zDJ heq h2]
     dsimp only
     refine ⟨?_,hc,rfl,by simp [hgg],by simp,rfl⟩
     rw [zBR hc (by simp [he]) (by simp)]
     simp only [zDx hb.p0,zDx hb.p1,zDx hb.p2,zDx hb.v0,zDx hb.v1,zDx hb.v2,zJF]
     rw [← he,← hgg]
   · have hgg : B.g = A.g + 1#8 := by
       rcases hg with h | h
       · exact absurd (by rw [h]) h2
       · exact h
     have hc:zAJ (⟨3,B.id,B.p0,B.p1,B.p2,B.v0,B.v1,B.v2,B.a⟩ : zX) = 0:=by
       unfold zAJ
       dsimp only
       rw [if_neg (by omega),if_neg (by omega),if_neg (by omega)]
     rw [zDO heq h2]
     dsimp only
     refine ⟨?_,hc,rfl,?_,by simp,rfl⟩
     · rw [zBP hc (by simp [he]) rfl]
       rw [← he,← hgg]
     · exact ⟨fun _ e=>h2 (by rw [e]),fun _=>rfl⟩
theorem zR3 {A B:zS} (h:(zAD A B).2 = false):A = B:=by
 cases heq:zI2 A B with
 | true=>exact zNL.1 heq
 | false =>
   by_cases h2:A.g.toNat = B.g.toNat
   · rw [zDJ heq h2] at h;cases h
   · rw [zDO heq h2] at h;cases h
end Go.Sx

set_option linter.unusedVariables false
set_option linter.unusedSimpArgs false
namespace Go.Sx
structure zc1 where
 k:Int
 m:BitVec 64
 e:BitVec 8
instance : Inhabited zc1:=⟨⟨0,0#64,0#8⟩⟩
theorem zAa {α:Type} {g:α → List Value} {size:Nat} (hg:∀ a,(g a).length = size):∀ (l:List α),(l.flatMap g).length = l.length * size
 | []=>by simp
 | a :: l=>by rw [List.flatMap_cons,List.length_append,hg,zAa hg l,List.length_cons,Nat.add_mul];omega
theorem zAi {α:Type} [Inhabited α] {g:α → List Value} {size:Nat} (hg:∀ a,(g a).length = size):∀ (l:List α) (j:Nat),j < l.length → ((l.flatMap g).drop (j * size)).take size = g (l.getD j default)
 | [],j,h=>by simp at h
 | a :: l,0,_=>by
   simp only [Nat.zero_mul,List.drop_zero,List.flatMap_cons,List.getD_cons_zero]
   rw [← hg a,List.take_left']
   rfl
 | a :: l,j + 1,h=>by
   have ih:=zAi hg l j (by simpa using h)
   rw [List.flatMap_cons,show (j + 1) * size = (g a).length + j * size by rw [hg,Nat.add_mul];omega,← List.drop_drop,List.drop_left',List.getD_cons_succ]
   · exact ih
   · rfl
theorem zDR {α:Type} [Inhabited α] {g:α → List Value} {size:Nat} (hg:∀ a,(g a).length = size) (l:List α) (j o:Nat) (h:j < l.length) (ho:o < size):(l.flatMap g)[j * size + o]? = (g (l.getD j default))[o]?:=by
 rw [← zAi hg l j h,List.getElem?_take,if_pos ho,List.getElem?_drop]
def Tr (bs:List zP) (u:Value) (p:Nat) (u':Value) (p':Nat):Prop:=∀ w' T,Rd w' T u 1 (bs.length - p) (zC (bs.drop p)) → Rd w' T u' 1 (bs.length - p') (zC (bs.drop p'))
theorem Tr.refl {bs:List zP} {u:Value} {p:Nat}:Tr bs u p u p:=fun _ _ h=>h
theorem Tr.trans {bs:List zP} {u u2 u3:Value} {p p2 p3:Nat} (h:Tr bs u p u2 p2) (h2:Tr bs u2 p2 u3 p3):Tr bs u p u3 p3:=fun w T h0=>h2 w T (h w T h0)
theorem zQ8 {b:List zP} (h:b.length = 0):(zCO b).2.2 = 5:=by rw [zCI h]
theorem zXk {bs:List zP} {k:Nat} (h:(zCO (bs.drop k)).2.2 ≠ 5):¬ bs.length ≤ k:=fun h2=>h (zQ8 (by simp only [List.length_drop];omega))
theorem zPl {bs:List zP} {X:BitVec 64} {R:Rs} (h:R.e = 0) (h1:(zCO (bs.drop R.p)).2.2 = 0) (h2:(zCO (bs.drop R.p)).1.toNat ≤ X.toNat):zN bs X R = ((zCO (bs.drop R.p)).1,⟨R.p + (zCO (bs.drop R.p)).2.1,0⟩):=by
 have hu:zIz (bs.drop R.p) X = 0:=by unfold zIz;rw [if_neg (fun h=>by omega)];exact h1
 exact zDE h (zXk (by omega)) hu
theorem zNq {bs:List zP} {R:Rs} (h:R.p ≤ bs.length):(zAB bs (zAB bs (zAB bs R).2).2).2.p ≤ bs.length ∧ R.p ≤ (zAB bs (zAB bs (zAB bs R).2).2).2.p ∧ (zAB bs (zAB bs (zAB bs R).2).2).2.p ≤ R.p + 30:=zX9 h
end Go.Sx

set_option linter.unusedVariables false
set_option linter.unusedSimpArgs false
namespace Go.Sx
structure zDX {α:Type} (bs:List zP) (c:List zP) (f:Rs → α × Rs) (v:α):Prop where
 stay:∀ R,R.e = 6 → (f R).2.e = 6
 good:∀ R n rest,R.e = 0 → R.p ≤ bs.length → bs.drop R.p = (c ++ rest).take n → c.length ≤ n → f R = (v,⟨R.p + c.length,0⟩)
 short:∀ R n rest,R.e = 0 → R.p ≤ bs.length → bs.drop R.p = (c ++ rest).take n → n < c.length → (f R).2.e = 6
theorem zMz {bs c rest:List zP} {p n:Nat} (h:bs.drop p = (c ++ rest).take n) (hn:c.length ≤ n) (hp:p ≤ bs.length):bs.drop (p + c.length) = rest.take (n - c.length) ∧ p + c.length ≤ bs.length:=by
 have h1:bs.drop (p + c.length) = (bs.drop p).drop c.length:=by rw [List.drop_drop]
 have h2:=congrArg List.length h
 simp only [List.length_drop,List.length_take,List.length_append] at h2
 refine ⟨?_,by omega⟩
 rw [h1,h,List.take_append,List.drop_append_of_le_length (by rw [List.length_take];omega),List.take_of_length_le hn,List.drop_length,List.nil_append]
theorem zDX.bind {α β:Type} {bs c d:List zP} {f:Rs → α × Rs} {g:α → Rs → β × Rs} {v:α} {u:β} (hf:zDX bs c f v) (hs:∀ x R,R.e = 6 → (g x R).2.e = 6) (hg:zDX bs d (g v) u):zDX bs (c ++ d) (fun R=>g (f R).1 (f R).2) u:=by
 refine ⟨fun R h=>hs _ _ (hf.stay R h),fun R n rest h0 hp hd hn=>?_,fun R n rest h0 hp hd hn=>?_⟩
 · rw [List.append_assoc] at hd
   rw [List.length_append] at hn
   have h1:=hf.good R n _ h0 hp hd (by omega)
   obtain ⟨h2,h3⟩:=zMz hd (by omega) hp
   rw [h1]
   dsimp only
   rw [hg.good ⟨R.p + c.length,0⟩ (n - c.length) rest rfl h3 h2 (by omega),List.length_append]
   dsimp only
   rw [Nat.add_assoc]
 · rw [List.append_assoc] at hd
   rw [List.length_append] at hn
   by_cases hc:c.length ≤ n
   · have h1:=hf.good R n _ h0 hp hd hc
     obtain ⟨h2,h3⟩:=zMz hd hc hp
     rw [h1]
     exact hg.short ⟨R.p + c.length,0⟩ (n - c.length) rest rfl h3 h2 (by omega)
   · exact hs _ _ (hf.short R n _ h0 hp hd (by omega))
theorem zDX.pure {α:Type} {bs:List zP} (v:α):zDX bs [] (fun R=>(v,R)) v:=by
 refine ⟨fun R h=>h,fun R n rest h0 hp hd hn=>?_,fun R n rest h0 hp hd hn=>?_⟩
 · cases R;simp at h0;subst h0;rfl
 · simp at hn
theorem zCZ {bs:List zP} {X L:BitVec 64} (h:X.toNat ≤ L.toNat):zDX bs (zCQ X.toNat) (zN bs L) X:=by
 have hvp:=zC9 X.toNat
 have hl:(zCQ X.toNat).length = zBX X.toNat:=rfl
 refine ⟨fun R h=>by rw [zCp (by omega)];exact h,fun R n rest h0 hp hd hn=>?_,fun R n rest h0 hp hd hn=>?_⟩
 · have hd2:bs.drop R.p = zCQ X.toNat ++ rest.take (n - (zCQ X.toNat).length):=by rw [hd,List.take_append,List.take_of_length_le hn]
   have hg:=zVY X (rest.take (n - (zCQ X.toNat).length))
   rw [← hd2] at hg
   rw [zPl h0 (by rw [hg]) (by rw [hg];exact h),hg]
   rfl
 · have hd2:bs.drop R.p = (zCQ X.toNat).take n:=by rw [hd,List.take_append,show n - (zCQ X.toNat).length = 0 by omega];simp
   by_cases h1:bs.length ≤ R.p
   · rw [zCW h0 h1]
   · have hn0 : 1 ≤ n := by
       have:=congrArg List.length hd2
       simp only [List.length_drop,List.length_take] at this
       omega
     have hg:=zQ1 X n hn0 (by omega)
     rw [← hd2] at hg
     have hu:zIz (bs.drop R.p) L = 6:=by unfold zIz;rw [hg];simp
     rw [zD6 h0 h1 (by omega),hu]
theorem zGu {bs:List zP} {c:zP}:zDX bs [c] (zG bs) c:=by
 refine ⟨fun R h=>by rw [zDw (by omega)];exact h,fun R n rest h0 hp hd hn=>?_,fun R n rest h0 hp hd hn=>?_⟩
 · have hd2 : bs.drop R.p = c :: rest.take (n - 1) := by
     rw [hd]
     simp only [List.length_singleton] at hn
     rw [show n = (n - 1) + 1 by omega]
     simp
   have hl:=congrArg List.length hd2
   simp only [List.length_drop,List.length_cons] at hl
   have hg:bs.getD R.p 0 = c:=by
     have:=congrArg (fun l:List zP=>l.getD 0 0) hd2
     simpa [List.getD_eq_getElem?_getD] using this
   rw [zDu h0 (by omega),hg]
   rfl
 · simp only [List.length_singleton] at hn
   have hn0:n = 0:=by omega
   subst hn0
   have hl:=congrArg List.length hd
   simp at hl
   rw [zDP h0 (by omega)]
theorem zCu {bs:List zP} {x:Int} (h : -9223372036854775808 ≤ x ∧ x ≤ 9223372036854775807):zDX bs (zDZ x) (zAB bs) x:=by
 have ht:=zCZ (bs:=bs) (X:=zGf x) (L:=18446744073709551615#64) (by have:=(zGf x).isLt;have h2:(18446744073709551615#64).toNat = 18446744073709551615:=rfl;omega)
 refine ⟨fun R h=>ht.stay R h,fun R n rest h0 hp hd hn=>?_,fun R n rest h0 hp hd hn=>ht.short R n rest h0 hp hd hn⟩
 have:=ht.good R n rest h0 hp hd hn
 unfold zAB
 rw [this,zYd x h]
 rfl
theorem zDz {e:Nat} {R:Rs} (h:R.e = 6):(zBi e R).e = 6:=by unfold zBi;rw [if_neg (by omega)];exact h
theorem zBn {bs:List zP} {m:BitVec 8} {i:Nat} {R:Rs} (h:R.e = 6):(upI bs m i R).2.e = 6:=by
 have h1:=(zLE (bs:=bs) (R:=R) (by omega)).2.1
 unfold upI
 split
 · dsimp only
   split
   · exact zDz (by omega)
   · omega
 · exact h
theorem zEw {bs:List zP} {m:BitVec 8} {R:Rs} (h:R.e = 6):(upA bs m R).2.e = 6:=by
 have h1:=(zJN (bs:=bs) (X:=65535#64) (R:=R) (by omega)).2.1
 unfold upA
 split
 · dsimp only
   split
   · exact zDz (by omega)
   · omega
 · exact h
def upC (r:zX) (i:Nat):List zP:=if r.num i = 0 then [] else zDZ (r.num i)
theorem zTq {bs:List zP} {m:BitVec 8} {r:zX} {i:Nat} (hm:zBl m i = true ↔ r.num i ≠ 0) (h : -9223372036854775808 ≤ r.num i ∧ r.num i ≤ 9223372036854775807):zDX bs (upC r i) (upI bs m i) (r.num i):=by
 by_cases h0:r.num i = 0
 · have hb : zBl m i = false := by
     cases hb:zBl m i with
     | false=>rfl
     | true=>exact absurd h0 (hm.1 hb)
   have:upI bs m i = fun R=>(0,R):=by
     funext R
     unfold upI
     rw [if_neg (by rw [hb];decide)]
   rw [this,upC,if_pos h0,h0]
   exact zDX.pure 0
 · have hb:=hm.2 h0
   have ht:=zCu (bs:=bs) h
   rw [upC,if_neg h0]
   refine ⟨fun R h=>zBn h,fun R n rest h1 hp hd hn=>?_,fun R n rest h1 hp hd hn=>?_⟩
   · have:=ht.good R n rest h1 hp hd hn
     unfold upI
     rw [if_pos hb,this]
     dsimp only
     rw [if_neg h0]
   · have:=ht.short R n rest h1 hp hd hn
     unfold upI
     rw [if_pos hb]
     dsimp only
     split
     · exact zDz this
     · exact this
theorem zX4 {bs:List zP} {a:BitVec 16}:zDX bs (zCQ a.toNat) (fun R=>((zN bs 65535#64 R).1.setWidth 16,(zN bs 65535#64 R).2)) a:=by
 have ht:=zCZ (bs:=bs) (X:=a.setWidth 64) (L:=65535#64) (by rw [zVG];have:=a.isLt;have h2:(65535#64).toNat = 65535:=rfl;omega)
 rw [zVG] at ht
 refine ⟨fun R h=>ht.stay R h,fun R n rest h0 hp hd hn=>?_,fun R n rest h0 hp hd hn=>ht.short R n rest h0 hp hd hn⟩
 have:=ht.good R n rest h0 hp hd hn
 rw [this]
 dsimp only
 congr 1
 apply BitVec.eq_of_toNat_eq
 simp
theorem zRU {bs:List zP} {m:BitVec 8} {a:BitVec 16} (hm:zBl m 6 = true ↔ a ≠ 0#16):zDX bs (if a = 0#16 then [] else zCQ a.toNat) (upA bs m) a:=by
 by_cases h0:a = 0#16
 · have hb : zBl m 6 = false := by
     cases hb:zBl m 6 with
     | false=>rfl
     | true=>exact absurd h0 (hm.1 hb)
   have:upA bs m = fun R=>(0#16,R):=by
     funext R
     unfold upA
     rw [if_neg (by rw [hb];decide)]
   rw [this,if_pos h0,h0]
   exact zDX.pure _
 · have hb:=hm.2 h0
   rw [if_neg h0]
   have ht:=zCZ (bs:=bs) (X:=a.setWidth 64) (L:=65535#64) (by rw [zVG];have:=a.isLt;have h2:(65535#64).toNat = 65535:=rfl;omega)
   rw [zVG] at ht
   have hne:a.setWidth 64 ≠ 0#64:=fun e=>h0 (BitVec.eq_of_toNat_eq (by rw [← zVG a,e];rfl))
   refine ⟨fun R h=>zEw h,fun R n rest h1 hp hd hn=>?_,fun R n rest h1 hp hd hn=>?_⟩
   · have:=ht.good R n rest h1 hp hd hn
     unfold upA
     rw [if_pos hb,this]
     dsimp only
     rw [if_neg hne]
     congr 1
     apply BitVec.eq_of_toNat_eq
     simp
   · have:=ht.short R n rest h1 hp hd hn
     unfold upA
     rw [if_pos hb]
     dsimp only
     split
     · exact zDz this
     · exact this
/-! ### The mask -/
def zEm (b0 b1 b2 b3 b4 b5 b6:Bool):BitVec 8 :=
 let m0:=bif b0 then 0#8 ||| (1#8 <<< 0) else 0#8
 let m1:=bif b1 then m0 ||| (1#8 <<< 1) else m0
 let m2:=bif b2 then m1 ||| (1#8 <<< 2) else m1
 let m3:=bif b3 then m2 ||| (1#8 <<< 3) else m2
 let m4:=bif b4 then m3 ||| (1#8 <<< 4) else m3
 let m5:=bif b5 then m4 ||| (1#8 <<< 5) else m4
 bif b6 then m5 ||| 64#8 else m5
theorem zZu {α:Type} {p:Prop} [Decidable p] (x y:α):(if p then x else y) = bif decide (¬ p) then y else x:=by by_cases h:p <;> simp [h]
theorem zZh (r:zX):zCa r = zEm (decide (r.p0 ≠ 0)) (decide (r.p1 ≠ 0)) (decide (r.p2 ≠ 0)) (decide (r.v0 ≠ 0)) (decide (r.v1 ≠ 0)) (decide (r.v2 ≠ 0)) (decide (r.a ≠ 0#16)):=by
 simp only [zCa,zAu,zX.num,zEm,zZu]
theorem zMp : ∀ b0 b1 b2 b3 b4 b5 b6:Bool,zBl (zEm b0 b1 b2 b3 b4 b5 b6) 0 = b0 ∧ zBl (zEm b0 b1 b2 b3 b4 b5 b6) 1 = b1 ∧ zBl (zEm b0 b1 b2 b3 b4 b5 b6) 2 = b2 ∧ zBl (zEm b0 b1 b2 b3 b4 b5 b6) 3 = b3 ∧ zBl (zEm b0 b1 b2 b3 b4 b5 b6) 4 = b4 ∧ zBl (zEm b0 b1 b2 b3 b4 b5 b6) 5 = b5 ∧ zBl (zEm b0 b1 b2 b3 b4 b5 b6) 6 = b6 ∧ (zEm b0 b1 b2 b3 b4 b5 b6).toNat ≤ 127 ∧ ((zEm b0 b1 b2 b3 b4 b5 b6).toNat = 0 → b0 = false ∧ b1 = false ∧ b2 = false ∧ b3 = false ∧ b4 = false ∧ b5 = false ∧ b6 = false):=by
 intro b0 b1 b2 b3 b4 b5 b6
 cases b0 <;> cases b1 <;> cases b2 <;> cases b3 <;> cases b4 <;> cases b5 <;> cases b6 <;> exact ⟨by decide,by decide,by decide,by decide,by decide,by decide,by decide,by decide,by decide⟩
theorem zTN (r:zX):(∀ i,i < 6 → (zBl (zCa r) i = true ↔ r.num i ≠ 0)) ∧ (zBl (zCa r) 6 = true ↔ r.a ≠ 0#16) ∧ (zCa r).toNat ≤ 127 ∧ ((zCa r).toNat = 0 → zAw r = true):=by
 have h:=zMp (decide (r.p0 ≠ 0)) (decide (r.p1 ≠ 0)) (decide (r.p2 ≠ 0)) (decide (r.v0 ≠ 0)) (decide (r.v1 ≠ 0)) (decide (r.v2 ≠ 0)) (decide (r.a ≠ 0#16))
 rw [← zZh] at h
 obtain ⟨h0,h1,h2,h3,h4,h5,h6,h7,h8⟩:=h
 refine ⟨fun i hi=>?_,by rw [h6,decide_eq_true_iff],h7,fun hz=>?_⟩
 · match i,hi with
   | 0,_=>rw [h0,decide_eq_true_iff];rfl
   | 1,_=>rw [h1,decide_eq_true_iff];rfl
   | 2,_=>rw [h2,decide_eq_true_iff];rfl
   | 3,_=>rw [h3,decide_eq_true_iff];rfl
   | 4,_=>rw [h4,decide_eq_true_iff];rfl
   | 5,_=>rw [h5,decide_eq_true_iff];rfl
 · obtain ⟨e0,e1,e2,e3,e4,e5,e6⟩:=h8 hz
   simp only [decide_eq_false_iff_not,ne_eq,Decidable.not_not] at e0 e1 e2 e3 e4 e5 e6
   simp [zAw,e0,e1,e2,e3,e4,e5,e6]
/-! ### The bodies -/
theorem zX.wf.num {r:zX} (h:r.wf) (i:Nat) : -9223372036854775808 ≤ r.num i ∧ r.num i ≤ 9223372036854775807:=by
 match i with
 | 0=>exact h.p0
 | 1=>exact h.p1
 | 2=>exact h.p2
 | 3=>exact h.v0
 | 4=>exact h.v1
 | _ + 5=>exact h.v2
theorem zAq {bs:List zP} {R:Rs} (h:R.e = 6):(zAB bs R).2.e = 6:=by have:=(zLE (bs:=bs) (R:=R) (by omega)).2.1;omega
theorem zDQ {bs:List zP} {X:BitVec 64} {R:Rs} (h:R.e = 6):(zN bs X R).2.e = 6:=by have:=(zJN (bs:=bs) (X:=X) (R:=R) (by omega)).2.1;omega
theorem zL4 {bs:List zP} {R:Rs} (h:R.e = 6):(zG bs R).2.e = 6:=by have:=(zO8 (bs:=bs) (R:=R) (by omega)).2.1;omega
theorem zRY {bs:List zP} {r:zX} (hw:r.wf):zDX bs (zBY r) (zCF bs r.k r.id) r:=by
 have h6:=(zX4 (bs:=bs) (a:=r.a)).bind (g:=fun x R=>((⟨r.k,r.id,r.p0,r.p1,r.p2,r.v0,r.v1,r.v2,x⟩ : zX),R)) (fun x R h=>h) (zDX.pure _)
 have h5:=(zCu (bs:=bs) hw.v2).bind (g:=fun x R=>((⟨r.k,r.id,r.p0,r.p1,r.p2,r.v0,r.v1,x,(zN bs 65535#64 R).1.setWidth 16⟩ : zX),(zN bs 65535#64 R).2)) (fun x R h=>zDQ h) h6
 have h4:=(zCu (bs:=bs) hw.v1).bind (g:=fun x R=>((⟨r.k,r.id,r.p0,r.p1,r.p2,r.v0,x,(zAB bs R).1,(zN bs 65535#64 (zAB bs R).2).1.setWidth 16⟩ : zX),(zN bs 65535#64 (zAB bs R).2).2)) (fun x R h=>zDQ (zAq h)) h5
 have h3:=(zCu (bs:=bs) hw.v0).bind (g:=fun x R=>((⟨r.k,r.id,r.p0,r.p1,r.p2,x,(zAB bs R).1,(zAB bs (zAB bs R).2).1,(zN bs 65535#64 (zAB bs (zAB bs R).2).2).1.setWidth 16⟩ : zX),(zN bs 65535#64 (zAB bs (zAB bs R).2).2).2)) (fun x R h=>zDQ (zAq (zAq h))) h4
 have h2:=(zCu (bs:=bs) hw.p2).bind (g:=fun x R=>((⟨r.k,r.id,r.p0,r.p1,x,(zAB bs R).1,(zAB bs (zAB bs R).2).1,(zAB bs (zAB bs (zAB bs R).2).2).1,(zN bs 65535#64 (zAB bs (zAB bs (zAB bs R).2).2).2).1.setWidth 16⟩ : zX),(zN bs 65535#64 (zAB bs (zAB bs (zAB bs R).2).2).2).2)) (fun x R h=>zDQ (zAq (zAq (zAq h)))) h3
 have h1:=(zCu (bs:=bs) hw.p1).bind (g:=fun x R=>((⟨r.k,r.id,r.p0,x,(zAB bs R).1,(zAB bs (zAB bs R).2).1,(zAB bs (zAB bs (zAB bs R).2).2).1,(zAB bs (zAB bs (zAB bs (zAB bs R).2).2).2).1,(zN bs 65535#64 (zAB bs (zAB bs (zAB bs (zAB bs R).2).2).2).2).1.setWidth 16⟩ : zX),(zN bs 65535#64 (zAB bs (zAB bs (zAB bs (zAB bs R).2).2).2).2).2)) (fun x R h=>zDQ (zAq (zAq (zAq (zAq h))))) h2
 have h0:=(zCu (bs:=bs) hw.p0).bind (g:=fun x R=>((⟨r.k,r.id,x,(zAB bs R).1,(zAB bs (zAB bs R).2).1,(zAB bs (zAB bs (zAB bs R).2).2).1,(zAB bs (zAB bs (zAB bs (zAB bs R).2).2).2).1,(zAB bs (zAB bs (zAB bs (zAB bs (zAB bs R).2).2).2).2).1,(zN bs 65535#64 (zAB bs (zAB bs (zAB bs (zAB bs (zAB bs R).2).2).2).2).2).1.setWidth 16⟩ : zX),(zN bs 65535#64 (zAB bs (zAB bs (zAB bs (zAB bs (zAB bs R).2).2).2).2).2).2)) (fun x R h=>zDQ (zAq (zAq (zAq (zAq (zAq h)))))) h1
 have e:zCF bs r.k r.id = fun R=>((⟨r.k,r.id,(zAB bs R).1,(zAB bs (zAB bs R).2).1,(zAB bs (zAB bs (zAB bs R).2).2).1,(zAB bs (zAB bs (zAB bs (zAB bs R).2).2).2).1,(zAB bs (zAB bs (zAB bs (zAB bs (zAB bs R).2).2).2).2).1,(zAB bs (zAB bs (zAB bs (zAB bs (zAB bs (zAB bs R).2).2).2).2).2).1,(zN bs 65535#64 (zAB bs (zAB bs (zAB bs (zAB bs (zAB bs (zAB bs R).2).2).2).2).2).2).1.setWidth 16⟩ : zX),(zN bs 65535#64 (zAB bs (zAB bs (zAB bs (zAB bs (zAB bs (zAB bs R).2).2).2).2).2).2).2):=by
   funext R
   simp only [zCF,nX,nS]
 rw [e]
 simpa [zBY,List.append_assoc] using h0
end Go.Sx

set_option linter.unusedVariables false
set_option linter.unusedSimpArgs false
namespace Go.Sx
theorem zQz {bs:List zP} {m:BitVec 8} {R:Rs} (h:R.e = 6):∀ i,(upS bs m R i).e = 6
 | 0=>h
 | i + 1=>zBn (zQz h i)
def zNJ (bs:List zP) (k id:Int) (m:BitVec 8) (R:Rs):zX × Rs :=
 if m.toNat = 0 ∨ 127 < m.toNat then (⟨k,id,0,0,0,0,0,0,0#16⟩,zBi 7 R)
 else (⟨k,id,upX bs m R 0,upX bs m R 1,upX bs m R 2,upX bs m R 3,upX bs m R 4,upX bs m R 5,(upA bs m (upS bs m R 6)).1⟩,(upA bs m (upS bs m R 6)).2)
theorem zJZ (bs:List zP) (k id:Int):zA3 bs k id = fun R=>zNJ bs k id (zG bs R).1 (zG bs R).2:=by
 funext R
 unfold zA3 zNJ
 rfl
theorem zK7 {bs:List zP} {k id:Int} {m:BitVec 8} {R:Rs} (h:R.e = 6):(zNJ bs k id m R).2.e = 6:=by
 unfold zNJ
 split
 · exact zDz h
 · exact zEw (zQz h 6)
theorem zKB (r:zX):zAc r 6 = upC r 0 ++ (upC r 1 ++ (upC r 2 ++ (upC r 3 ++ (upC r 4 ++ upC r 5)))):=by
 have h:∀ i,zAc r (i + 1) = zAc r i ++ upC r i:=fun i=>by
   show (if r.num i = 0 then _ else _) = _
   unfold upC
   split <;> simp
 rw [h 5,h 4,h 3,h 2,h 1,h 0]
 simp [zAc]
def upW (r:zX):List zP:=if r.a = 0#16 then [] else zCQ r.a.toNat
theorem zO4 (r:zX):zBM r = [zCa r] ++ (upC r 0 ++ (upC r 1 ++ (upC r 2 ++ (upC r 3 ++ (upC r 4 ++ (upC r 5 ++ upW r)))))):=by
 unfold zBM zG5 upW
 rw [zKB]
 split <;> simp
theorem zPN {bs:List zP} {r:zX} (hw:r.wf) (hne:zAw r = false):zDX bs (zBM r) (zA3 bs r.k r.id) r:=by
 obtain ⟨hb,h6,h7,h8⟩:=zTN r
 have hm0:¬ ((zCa r).toNat = 0 ∨ 127 < (zCa r).toNat):=by
   rintro (h | h)
   · rw [h8 h] at hne;cases hne
   · omega
 rw [zO4,zJZ]
 refine zGu.bind (g:=fun m R=>zNJ bs r.k r.id m R) (fun x R h=>zK7 h) ?_
 generalize hM:zCa r = m at *
 have e:(fun R=>zNJ bs r.k r.id m R) = fun R=>(⟨r.k,r.id,(upI bs m 0 R).1,(upI bs m 1 (upI bs m 0 R).2).1,(upI bs m 2 (upI bs m 1 (upI bs m 0 R).2).2).1,(upI bs m 3 (upI bs m 2 (upI bs m 1 (upI bs m 0 R).2).2).2).1,(upI bs m 4 (upI bs m 3 (upI bs m 2 (upI bs m 1 (upI bs m 0 R).2).2).2).2).1,(upI bs m 5 (upI bs m 4 (upI bs m 3 (upI bs m 2 (upI bs m 1 (upI bs m 0 R).2).2).2).2).2).1,(upA bs m (upI bs m 5 (upI bs m 4 (upI bs m 3 (upI bs m 2 (upI bs m 1 (upI bs m 0 R).2).2).2).2).2).2).1⟩,(upA bs m (upI bs m 5 (upI bs m 4 (upI bs m 3 (upI bs m 2 (upI bs m 1 (upI bs m 0 R).2).2).2).2).2).2).2):=by
   funext R
   unfold zNJ
   rw [if_neg hm0]
   rfl
 rw [e]
 have hn:=fun i hi=>zTq (bs:=bs) (hb i hi) (hw.num i)
 have q6:=(zRU (bs:=bs) h6).bind (g:=fun x R=>((⟨r.k,r.id,r.p0,r.p1,r.p2,r.v0,r.v1,r.v2,x⟩ : zX),R)) (fun x R h=>h) (zDX.pure _)
 have q5:=(hn 5 (by omega)).bind (g:=fun x R=>((⟨r.k,r.id,r.p0,r.p1,r.p2,r.v0,r.v1,x,(upA bs m R).1⟩ : zX),(upA bs m R).2)) (fun x R h=>zEw h) q6
 have q4:=(hn 4 (by omega)).bind (g:=fun x R=>((⟨r.k,r.id,r.p0,r.p1,r.p2,r.v0,x,(upI bs m 5 R).1,(upA bs m (upI bs m 5 R).2).1⟩ : zX),(upA bs m (upI bs m 5 R).2).2)) (fun x R h=>zEw (zBn h)) q5
 have q3:=(hn 3 (by omega)).bind (g:=fun x R=>((⟨r.k,r.id,r.p0,r.p1,r.p2,x,(upI bs m 4 R).1,(upI bs m 5 (upI bs m 4 R).2).1,(upA bs m (upI bs m 5 (upI bs m 4 R).2).2).1⟩ : zX),(upA bs m (upI bs m 5 (upI bs m 4 R).2).2).2)) (fun x R h=>zEw (zBn (zBn h))) q4
 have q2:=(hn 2 (by omega)).bind (g:=fun x R=>((⟨r.k,r.id,r.p0,r.p1,x,(upI bs m 3 R).1,(upI bs m 4 (upI bs m 3 R).2).1,(upI bs m 5 (upI bs m 4 (upI bs m 3 R).2).2).1,(upA bs m (upI bs m 5 (upI bs m 4 (upI bs m 3 R).2).2).2).1⟩ : zX),(upA bs m (upI bs m 5 (upI bs m 4 (upI bs m 3 R).2).2).2).2)) (fun x R h=>zEw (zBn (zBn (zBn h)))) q3
 have q1:=(hn 1 (by omega)).bind (g:=fun x R=>((⟨r.k,r.id,r.p0,x,(upI bs m 2 R).1,(upI bs m 3 (upI bs m 2 R).2).1,(upI bs m 4 (upI bs m 3 (upI bs m 2 R).2).2).1,(upI bs m 5 (upI bs m 4 (upI bs m 3 (upI bs m 2 R).2).2).2).1,(upA bs m (upI bs m 5 (upI bs m 4 (upI bs m 3 (upI bs m 2 R).2).2).2).2).1⟩ : zX),(upA bs m (upI bs m 5 (upI bs m 4 (upI bs m 3 (upI bs m 2 R).2).2).2).2).2)) (fun x R h=>zEw (zBn (zBn (zBn (zBn h))))) q2
 have q0:=(hn 0 (by omega)).bind (g:=fun x R=>((⟨r.k,r.id,x,(upI bs m 1 R).1,(upI bs m 2 (upI bs m 1 R).2).1,(upI bs m 3 (upI bs m 2 (upI bs m 1 R).2).2).1,(upI bs m 4 (upI bs m 3 (upI bs m 2 (upI bs m 1 R).2).2).2).1,(upI bs m 5 (upI bs m 4 (upI bs m 3 (upI bs m 2 (upI bs m 1 R).2).2).2).2).1,(upA bs m (upI bs m 5 (upI bs m 4 (upI bs m 3 (upI bs m 2 (upI bs m 1 R).2).2).2).2).2).1⟩ : zX),(upA bs m (upI bs m 5 (upI bs m 4 (upI bs m 3 (upI bs m 2 (upI bs m 1 R).2).2).2).2).2).2)) (fun x R h=>zEw (zBn (zBn (zBn (zBn (zBn h)))))) q1
 simpa [upW,zX.num] using q0
theorem zPA {r:zX} (h:zAw r = true):r = ⟨r.k,r.id,0,0,0,0,0,0,0#16⟩:=by
 simp only [zAw,Bool.and_eq_true,beq_iff_eq] at h
 obtain ⟨⟨⟨⟨⟨⟨e0,e1⟩,e2⟩,e3⟩,e4⟩,e5⟩,e6⟩:=h
 have e6':=zN7 e6
 cases r
 simp_all
theorem zEh {r:zX} (h:zAJ r = 0):0 ≤ r.k ∧ r.k ≤ 3 ∧ 0 ≤ r.id ∧ r.id ≤ 65535 ∧ (r.k = 1 → zAw r = false) ∧ (r.k = 2 → zAw r = true):=by
 unfold zAJ at h
 split at h
 · cases h
 · split at h
   · cases h
   · split at h
     · cases h
     · rename_i h1 h2 h3
       refine ⟨by omega,by omega,by omega,by omega,fun hk=>?_,fun hk=>?_⟩
       · cases he:zAw r with
         | false=>rfl
         | true=>exact absurd (.inl ⟨hk,he⟩) h3
       · cases he:zAw r with
         | true=>rfl
         | false=>exact absurd (.inr ⟨hk,he⟩) h3
theorem zSd {bs:List zP} {k id:Int} {R:Rs} (h:R.e = 6):(zCF bs k id R).2.e = 6:=by
 simp only [zCF,nS]
 exact zDQ (zAq (zAq (zAq (zAq (zAq (zAq h))))))
theorem zJe {bs:List zP} {k id:Int} {R:Rs} (h:R.e = 6):(zA8 bs k id R).2.e = 6:=by
 unfold zA8
 split
 · exact zSd h
 · split
   · rw [zJZ];exact zK7 (zL4 h)
   · split
     · exact h
     · exact zDz h
theorem zPu {bs:List zP} {r:zX} (hw:r.wf) (hc:zAJ r = 0):zDX bs (zEE r) (zA8 bs r.k r.id) r:=by
 obtain ⟨h1,h2,h3,h4,h5,h6⟩:=zEh hc
 by_cases hk1:r.k = 1
 · have:zA8 bs r.k r.id = zA3 bs r.k r.id:=by funext R;exact zH9 hk1
   rw [this,zEE,if_pos hk1]
   exact zPN hw (h5 hk1)
 · by_cases hk2:r.k = 2
   · have : zA8 bs r.k r.id = fun R => (r, R) := by
       funext R
       rw [zID hk2]
       exact congrArg (·,R) (zPA (h6 hk2)).symm
     rw [this,zEE,if_neg hk1,if_pos hk2]
     exact zDX.pure r
   · have:zA8 bs r.k r.id = zCF bs r.k r.id:=by funext R;exact zG8 (by omega)
     rw [this,zEE,if_neg hk1,if_neg hk2]
     exact zRY hw
theorem zHJ {r:zX} {last:Int} (h:zA0 r last = 0):zAJ r = 0 ∧ -1 ≤ last ∧ last ≤ 65535 ∧ last < r.id:=by
 unfold zA0 at h
 split at h
 · omega
 · split at h
   · cases h
   · split at h
     · cases h
     · omega
theorem zQv {bs:List zP} {r:zX} {last:Int} (hw:r.wf) (he:zA0 r last = 0):zDX bs (zCf r last) (zEa bs last) r:=by
 obtain ⟨hc,h1,h2,h3⟩:=zHJ he
 obtain ⟨c1,c2,c3,c4,_,_⟩:=zEh hc
 have hX:(((BitVec.ofInt 64 (r.id - last - 1)).toNat:Nat):Int) = r.id - last - 1:=zEI (by omega) (by omega)
 have hL:(((BitVec.ofInt 64 (65534 - last)).toNat:Nat):Int) = 65534 - last:=zEI (by omega) (by omega)
 have hk:(((BitVec.ofInt 8 r.k).toNat:Nat):Int) = r.k:=by rw [BitVec.toNat_ofInt];omega
 rw [zCf,if_neg (by omega),zAY,List.append_assoc]
 have q2:=zPu (bs:=bs) hw hc
 have e2:zA8 bs r.k r.id = (fun (x:zP) R=>zA8 bs (((x.toNat:Nat):Int)) (last + 1 + (((BitVec.ofInt 64 (r.id - last - 1)).toNat:Nat):Int)) R) (BitVec.ofInt 8 r.k):=by
   funext R
   dsimp only
   rw [hk,hX,show last + 1 + (r.id - last - 1) = r.id by omega]
 rw [e2] at q2
 have q1:=(zGu (bs:=bs) (c:=BitVec.ofInt 8 r.k)).bind (g:=fun (x:zP) R=>zA8 bs ((x.toNat:Nat):Int) (last + 1 + (((BitVec.ofInt 64 (r.id - last - 1)).toNat:Nat):Int)) R) (fun x R h=>zJe h) q2
 have q0:=(zCZ (bs:=bs) (X:=BitVec.ofInt 64 (r.id - last - 1)) (L:=BitVec.ofInt 64 (65534 - last)) (by omega)).bind
   (g:=fun X R=>zA8 bs (((zG bs R).1.toNat:Nat):Int) (last + 1 + ((X.toNat:Nat):Int)) (zG bs R).2) (fun x R h=>zJe (zL4 h)) q1
 exact q0
theorem zYs {bs rest : List zP} {r : zX} {last : Int} {p n : Nat} (hw : r.wf) (he : zA0 r last = 0) (hp : p ≤ bs.length) (hd : bs.drop p = (zCf r last ++ rest).take n) :
   ((zCf r last).length ≤ n → zAH bs last ⟨p,0⟩ = (r,0,⟨p + (zCf r last).length,0⟩)) ∧ (n < (zCf r last).length → (zAH bs last ⟨p,0⟩).1 = zOL ∧ (zAH bs last ⟨p,0⟩).2.1 = 6):=by
 have ht:=zQv (bs:=bs) hw he
 obtain ⟨hc,h1,h2,h3⟩:=zHJ he
 obtain ⟨c1,c2,c3,c4,_,_⟩:=zEh hc
 refine ⟨fun hn=>?_,fun hn=>?_⟩
 · exact zFT (by omega) (by omega) (ht.good ⟨p,0⟩ n rest rfl hp hd hn) rfl
 · have h6:=ht.short ⟨p,0⟩ n rest rfl hp hd hn
   rw [zD1 (rr:=(zEa bs last ⟨p,0⟩).1) (RR:=(zEa bs last ⟨p,0⟩).2) (by omega) (by omega) rfl (by omega)]
   exact ⟨rfl,h6⟩
theorem zYz {bs rest:List zP} {r:zX} {last:Int} {p:Nat} (hw:r.wf) (he:zA0 r last = 0) (hp:p ≤ bs.length) (hd:bs.drop p = zCf r last ++ rest):zAH bs last ⟨p,0⟩ = (r,0,⟨p + (zCf r last).length,0⟩) :=
 (zYs (n:=(zCf r last ++ rest).length) hw he hp (by rw [List.take_length];exact hd)).1 (by simp)
/-! ### The other way about -/
end Go.Sx

set_option linter.unusedVariables false
set_option linter.unusedSimpArgs false
namespace Go.Sx
theorem zJT {bs:List zP} {R:Rs} (i:Nat) : -9223372036854775808 ≤ nX bs R i ∧ nX bs R i ≤ 9223372036854775807:=by
 unfold nX zAB
 exact zF0 _
theorem zVO {bs:List zP} {k id:Int} {R:Rs} (hk : -9223372036854775808 ≤ k ∧ k ≤ 9223372036854775807) (hi : -9223372036854775808 ≤ id ∧ id ≤ 9223372036854775807):(zCF bs k id R).1.wf:=by
 unfold zCF
 dsimp only
 exact ⟨hk,hi,zJT (bs:=bs) (R:=R) 0,zJT (bs:=bs) (R:=R) 1,zJT (bs:=bs) (R:=R) 2,zJT (bs:=bs) (R:=R) 3,zJT (bs:=bs) (R:=R) 4,zJT (bs:=bs) (R:=R) 5⟩
theorem zGz {bs:List zP} {m:BitVec 8} {R:Rs} (i:Nat) : -9223372036854775808 ≤ upX bs m R i ∧ upX bs m R i ≤ 9223372036854775807:=by
 unfold upX upI
 split
 · unfold zAB
   exact zF0 _
 · show -9223372036854775808 ≤ (0:Int) ∧ (0:Int) ≤ 9223372036854775807
   decide
theorem zQa {bs:List zP} {k id:Int} {R:Rs} (hk : -9223372036854775808 ≤ k ∧ k ≤ 9223372036854775807) (hi : -9223372036854775808 ≤ id ∧ id ≤ 9223372036854775807):(zA3 bs k id R).1.wf:=by
 have hz : -9223372036854775808 ≤ (0:Int) ∧ (0:Int) ≤ 9223372036854775807:=by decide
 unfold zA3
 dsimp only
 split
 · exact ⟨hk,hi,hz,hz,hz,hz,hz,hz⟩
 · exact ⟨hk,hi,zGz 0,zGz 1,zGz 2,zGz 3,zGz 4,zGz 5⟩
theorem zRx {bs:List zP} {k id:Int} {R:Rs} (hk : -9223372036854775808 ≤ k ∧ k ≤ 9223372036854775807) (hi : -9223372036854775808 ≤ id ∧ id ≤ 9223372036854775807):(zA8 bs k id R).1.wf ∧ (zA8 bs k id R).1.k = k ∧ (zA8 bs k id R).1.id = id:=by
 have hz : -9223372036854775808 ≤ (0:Int) ∧ (0:Int) ≤ 9223372036854775807:=by decide
 unfold zA8
 split
 · exact ⟨zVO hk hi,rfl,rfl⟩
 · split
   · refine ⟨zQa hk hi,?_,?_⟩ <;> (unfold zA3;dsimp only;split <;> rfl)
   · split <;> exact ⟨⟨hk,hi,hz,hz,hz,hz,hz,hz⟩,rfl,rfl⟩
theorem zM1 : zOL.wf:=⟨by decide,by decide,by decide,by decide,by decide,by decide,by decide,by decide⟩
theorem zUA {bs:List zP} {last:Int} {R:Rs} (hp:R.p ≤ bs.length):(zAH bs last R).1.wf:=by
 unfold zAH
 split
 · exact zM1
 · split
   · exact zM1
   · split
     · exact zM1
     · rename_i h1 h2 h3
       have h4:=zRu (bs:=bs) (last:=last) hp (by omega) (by omega)
       have h5:=(zG bs (zP1 bs last R).2).1.isLt
       exact (zRx (by omega) (by change _ ≤ last + 1 + (((zN bs (BitVec.ofInt 64 (65534 - last)) R).1.toNat:Nat):Int) ∧ last + 1 + (((zN bs (BitVec.ofInt 64 (65534 - last)) R).1.toNat:Nat):Int) ≤ _;omega)).1
end Go.Sx
