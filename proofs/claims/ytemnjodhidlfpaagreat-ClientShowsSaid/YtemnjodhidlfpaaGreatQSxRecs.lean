import Derived.Test.YtemnjodhidlfpaaGreatQSxBasA
import Derived.Test.YtemnjodhidlfpaaGreatQSxBasB
/- Texts of the small logic, one behind the other: SxPvar, SxPrd, SxPrec, SxPrecR, SxPent, SxRrd, SxPrecL, SxPrecM, SxPrecB. -/
set_option linter.unusedVariables false
set_option linter.unusedSimpArgs false
namespace Go.Sx

def zAo (x:Nat):Nat:=if x = 0 then 0 else Nat.log2 x + 1
theorem zDQ {x k:Nat} (h:x < 2 ^ k):zAo x ≤ k:=by
 unfold zAo
 split
 · omega
 · rename_i h0
   have:=(Nat.log2_lt h0).2 h
   omega
theorem zF9 {x k:Nat} (h:2 ^ k ≤ x):k < zAo x:=by
 unfold zAo
 have h0:x ≠ 0:=by have:=Nat.two_pow_pos k;omega
 rw [if_neg h0]
 have:=(Nat.le_log2 h0).2 h
 omega
theorem zJ4 {x k:Nat} (h1:x < 2 ^ (k + 1)) (h2:2 ^ k ≤ x):zAo x = k + 1:=by
 have:=zDQ h1
 have:=zF9 h2
 omega
theorem zGo {x:Nat} (k:Nat) (h:2 ^ k ≤ x):zAo x = k + zAo (x / 2 ^ k):=by
 have hp:=Nat.two_pow_pos k
 have hq:1 ≤ x / 2 ^ k:=(Nat.le_div_iff_mul_le hp).2 (by omega)
 have h0:x / 2 ^ k ≠ 0:=by omega
 have hb:zAo (x / 2 ^ k) = Nat.log2 (x / 2 ^ k) + 1:=by unfold zAo;rw [if_neg h0]
 have l1:=Nat.log2_self_le h0
 have l2:=Nat.lt_log2_self (n:=x / 2 ^ k)
 rw [hb]
 refine (zJ4 (k:=k + Nat.log2 (x / 2 ^ k)) ?_ ?_).trans (by omega)
 · rw [Nat.add_assoc,Nat.pow_add]
   rw [Nat.mul_comm]
   exact (Nat.div_lt_iff_lt_mul hp).1 l2
 · rw [Nat.pow_add,Nat.mul_comm]
   exact (Nat.le_div_iff_mul_le hp).1 l1
def zFn : Nat → Nat → List zQ
 | 0,x=>[BitVec.ofNat 8 x]
 | k + 1,x=>if x < 128 then [BitVec.ofNat 8 x] else BitVec.ofNat 8 (x % 128 + 128) :: zFn k (x / 128)
def zCP (x:Nat):List zQ:=zFn 9 x
def zBW (x:Nat):Nat:=(zCP x).length
theorem zIh : ∀ (k j x:Nat),x < 128 ^ (k + 1) → zFn (k + j) x = zFn k x
 | 0,0,x,_=>rfl
 | 0,j + 1,x,h=>by rw [Nat.zero_add];simp only [zFn];rw [if_pos (by simpa using h)]
 | k + 1,j,x,h=>by
   rw [show k + 1 + j = (k + j) + 1 by omega]
   simp only [zFn]
   by_cases hx:x < 128
   · rw [if_pos hx,if_pos hx]
   · rw [if_neg hx,if_neg hx,zIh k j (x / 128) (by rw [Nat.div_lt_iff_lt_mul (by omega)];rw [Nat.pow_succ] at h;exact h)]
theorem zDt {x:Nat} (h:x < 128):zCP x = [BitVec.ofNat 8 x]:=by unfold zCP;simp only [zFn];rw [if_pos h]
theorem zEj {x:Nat} (h:¬ x < 128) (hx:x < 2 ^ 64):zCP x = BitVec.ofNat 8 (x % 128 + 128) :: zCP (x / 128):=by
 unfold zCP
 rw [show (9:Nat) = 8 + 1 by rfl]
 rw [show zFn (8 + 1) x = BitVec.ofNat 8 (x % 128 + 128) :: zFn 8 (x / 128) by simp only [zFn];rw [if_neg h]]
 rw [zIh 8 1 (x / 128) (by rw [Nat.div_lt_iff_lt_mul (by omega)];omega)]
theorem zNF : ∀ (k x:Nat),(zFn k x).length ≤ k + 1
 | 0,x=>by simp [zFn]
 | k + 1,x=>by
   simp only [zFn]
   split
   · simp
   · have:=zNF k (x / 128)
     simp;omega
theorem zCx (x:Nat):zBW x ≤ 10:=zNF 9 x
theorem zC2 (x:Nat):1 ≤ zBW x:=by
 unfold zBW zCP
 simp only [zFn]
 split <;> simp
theorem zDs {x:Nat} (h:x < 128):zBW x = 1:=by unfold zBW;rw [zDt h];rfl
theorem zCk {x:Nat} (h:¬ x < 128) (hx:x < 2 ^ 64):zBW x = zBW (x / 128) + 1:=by unfold zBW;rw [zEj h hx];simp
theorem zLN {x:Nat} (h:x < 128):zAo x ≤ 7:=zDQ (k:=7) h
theorem zXq : ∀ (d x:Nat),x < 2 ^ 64 → x ≤ d → zBW x = (max 1 (zAo x) + 6) / 7:=by
 intro d
 induction d using Nat.strongRecOn with
 | _ d ih =>
   intro x hx hd
   by_cases h:x < 128
   · rw [zDs h]
     have:=zLN h
     omega
   · have h2:=zGo (x:=x) 7 (by omega)
     rw [show (2:Nat) ^ 7 = 128 by rfl] at h2
     have h3:1 ≤ zAo (x / 128):=zF9 (k:=0) (by omega)
     rw [zCk h hx,ih (x / 128) (by omega) (x / 128) (by omega) (Nat.le_refl _),h2]
     omega
theorem zTV (X:BitVec 64):(max 1 ((zAo X.toNat:Nat):Int) + 7 - 1) / 7 = ((zBW X.toNat:Nat):Int):=by
 rw [zXq X.toNat X.toNat X.isLt (Nat.le_refl _)]
 omega
def zLi (X:BitVec 64) (m:Nat):Nat → List zQ
 | 0=>List.replicate m 0#8
 | k + 1=>(zLi X m k).set k ((X >>> (7 * k)).setWidth 8 ||| 128#8)
theorem zDO (X:BitVec 64) (m:Nat):∀ k,(zLi X m k).length = m
 | 0=>by simp [zLi]
 | k + 1=>by simp [zLi,zDO X m k]
theorem zJM (X:BitVec 64) (m:Nat):∀ (k i:Nat),i < k → i < m → (zLi X m k)[i]? = some ((X >>> (7 * i)).setWidth 8 ||| 128#8)
 | 0,i,h,_=>by omega
 | k + 1,i,h,hm=>by
   simp only [zLi]
   by_cases e:k = i
   · subst e
     rw [List.getElem?_set_self (by rw [zDO];exact hm)]
   · rw [List.getElem?_set_ne e]
     exact zJM X m k i (by omega) hm
theorem zVg (c:zQ):(c ||| 128#8).toNat = c.toNat % 128 + 128:=by
 have:∀ c:BitVec 8,(c ||| 128#8).toNat = c.toNat % 128 + 128:=by decide +kernel
 exact this c
theorem zMG (c:zQ):(c &&& ~~~128#8).toNat = c.toNat % 128:=by
 have:∀ c:BitVec 8,(c &&& ~~~128#8).toNat = c.toNat % 128:=by decide +kernel
 exact this c
theorem zGg (X:BitVec 64) (i:Nat):((X >>> (7 * i)).setWidth 8).toNat = X.toNat / 2 ^ (7 * i) % 256:=by
 rw [BitVec.toNat_setWidth,BitVec.toNat_ushiftRight,Nat.shiftRight_eq_div_pow]
theorem zJl : ∀ (n i x:Nat),zBW x = n → x < 2 ^ 64 → i < n → (zCP x)[i]? = some (if i + 1 = n then BitVec.ofNat 8 (x / 128 ^ i) else BitVec.ofNat 8 (x / 128 ^ i % 128 + 128)):=by
 intro n
 induction n with
 | zero=>intro i x _ _ h;omega
 | succ n ih =>
   intro i x hn hx hi
   by_cases h:x < 128
   · have h1:=zDs h
     have:n = 0:=by omega
     subst this
     have:i = 0:=by omega
     subst this
     rw [zDt h]
     simp
   · have h1:=zCk h hx
     have hpos:=zC2 (x / 128)
     rw [zEj h hx]
     cases i with
     | zero =>
       rw [if_neg (by omega)]
       simp
     | succ i =>
       rw [List.getElem?_cons_succ,ih i (x / 128) (by omega) (by omega) (by omega)]
       rw [Nat.div_div_eq_div_mul,show 128 * 128 ^ i = 128 ^ (i + 1) by rw [Nat.pow_succ,Nat.mul_comm]]
       by_cases e:i + 1 = n
       · rw [if_pos e,if_pos (by omega)]
       · rw [if_neg e,if_neg (by omega)]
theorem zau (i:Nat):(2:Nat) ^ (7 * i) = 128 ^ i:=by rw [Nat.pow_mul]
theorem zNz (n x:Nat) (hn:zBW x = n + 1) (hx:x < 2 ^ 64):x / 128 ^ n < 128:=by
 induction n generalizing x with
 | zero =>
   by_cases h:x < 128
   · simpa using h
   · have:=zCk h hx;have:=zC2 (x / 128);omega
 | succ n ih =>
   by_cases h:x < 128
   · have:=zDs h;omega
   · have:=zCk h hx
     have:=ih (x / 128) (by omega) (by omega)
     rwa [Nat.div_div_eq_div_mul,show 128 * 128 ^ n = 128 ^ (n + 1) by rw [Nat.pow_succ,Nat.mul_comm]] at this
theorem zZI (X:BitVec 64) (m:Nat) (hm:zBW X.toNat = m):(zLi X m m).set (m - 1) ((zLi X m m).getD (m - 1) 0 &&& ~~~128#8) = zCP X.toNat:=by
 have hpos:=zC2 X.toNat
 have hlen:(zCP X.toNat).length = m:=hm
 apply List.ext_getElem?
 intro i
 by_cases hi:i < m
 · rw [zJl m i X.toNat hm X.isLt hi]
   by_cases e:m - 1 = i
   · subst e
     rw [List.getElem?_set_self (by rw [zDO];exact hi),if_pos (by omega)]
     have hg:=zJM X m m (m - 1) (by omega) hi
     have ht:=zNz (m - 1) X.toNat (by omega) X.isLt
     congr 1
     apply BitVec.eq_of_toNat_eq
     rw [zMG,List.getD_eq_getElem?_getD,hg,Option.getD_some,zVg,zGg,zau,BitVec.toNat_ofNat]
     generalize X.toNat / 128 ^ (m - 1) = q at *
     omega
   · rw [List.getElem?_set_ne e,zJM X m m i hi hi,if_neg (by omega)]
     congr 1
     apply BitVec.eq_of_toNat_eq
     rw [zVg,zGg,zau,BitVec.toNat_ofNat]
     omega
 · rw [List.getElem?_eq_none (by rw [List.length_set,zDO];omega),List.getElem?_eq_none (by omega)]
theorem zW2 : ∀ (n x:Nat),1 ≤ n → x < 2 ^ 64 → x < 128 ^ n → zBW x ≤ n:=by
 intro n
 induction n with
 | zero=>intro x h;omega
 | succ n ih =>
   intro x h1 hx h
   by_cases hs:x < 128
   · rw [zDs hs];omega
   · have h2:=zCk hs hx
     cases n with
     | zero=>simp at h;omega
     | succ n =>
       have:=ih (x / 128) (by omega) (by omega) (by rw [Nat.div_lt_iff_lt_mul (by omega)];rw [Nat.pow_succ] at h;exact h)
       omega
/-! ### What is got -/
def zEW : List zQ → Nat
 | []=>0
 | c :: l=>c.toNat % 128 + 128 * zEW l
def zA4 : Nat → List zQ → Nat
 | 0,_=>0
 | _,[]=>0
 | k + 1,c :: l=>if 128 ≤ c.toNat then zA4 k l + 1 else 0
def zCN (b:List zQ):BitVec 64 × Nat × Nat :=
 if b.length = 0 then (0#64,0,5) else if zA4 10 b = 10 then (0#64,0,8) else if zA4 10 b = b.length then (0#64,0,6)
 else if zA4 10 b = 9 ∧ 1 < (b.getD (zA4 10 b) 0).toNat then (0#64,0,8)
 else if (b.getD (zA4 10 b) 0).toNat = 0 ∧ 0 < zA4 10 b then (0#64,0,7)
 else (BitVec.ofNat 64 (zEW (b.take (zA4 10 b + 1))),zA4 10 b + 1,0)
theorem zFz : ∀ (k:Nat) (b:List zQ),zA4 k b ≤ k ∧ zA4 k b ≤ b.length
 | 0,b=>by simp [zA4]
 | k + 1,[]=>by simp [zA4]
 | k + 1,c :: l=>by
   have:=zFz k l
   simp only [zA4]
   split
   · simp;omega
   · simp
theorem zEv : ∀ (k i:Nat) (b:List zQ),i ≤ zA4 k b → i < k → i < b.length → 128 ≤ (b.getD i 0).toNat → i + 1 ≤ zA4 k b
 | 0,i,b,_,h,_,_=>by omega
 | k + 1,i,[],_,_,h,_=>by simp at h
 | k + 1,0,c :: l,_,_,_,h=>by
   simp only [zA4]
   rw [if_pos (by simpa using h)]
   omega
 | k + 1,i + 1,c :: l,h1,h2,h3,h4=>by
   simp only [zA4] at *
   split at h1
   · rename_i hc
     rw [if_pos hc]
     have:=zEv k i l (by omega) (by omega) (by simpa using h3) (by simpa using h4)
     omega
   · omega
theorem zFA : ∀ (k i:Nat) (b:List zQ),i ≤ zA4 k b → i < b.length → (b.getD i 0).toNat < 128 → zA4 k b = i
 | 0,i,b,h,_,_=>by simp only [zA4] at *;omega
 | k + 1,i,[],_,h,_=>by simp at h
 | k + 1,0,c :: l,_,_,h=>by
   simp only [zA4]
   rw [if_neg (by have:c.toNat < 128:=(by simpa using h);omega)]
 | k + 1,i + 1,c :: l,h1,h3,h4=>by
   simp only [zA4] at *
   split at h1
   · rename_i hc
     rw [if_pos hc,zFA k i l (by omega) (by simpa using h3) (by simpa using h4)]
   · omega
theorem zJf : ∀ (b:List zQ),zEW b < 128 ^ b.length
 | []=>by simp [zEW]
 | c :: l=>by
   have:=zJf l
   simp only [zEW,List.length_cons,Nat.pow_succ]
   omega
theorem zIH : ∀ (b c:List zQ),zEW (b ++ c) = zEW b + 128 ^ b.length * zEW c
 | [],c=>by simp [zEW]
 | x :: l,c=>by
   simp only [zEW,List.cons_append,zIH l c,List.length_cons,Nat.pow_succ]
   rw [Nat.mul_add,Nat.mul_comm (128 ^ l.length) 128,Nat.mul_assoc]
   omega
theorem zLc (b:List zQ) (i:Nat) (h:i < b.length):zEW (b.take (i + 1)) = zEW (b.take i) + 128 ^ i * ((b.getD i 0).toNat % 128):=by
 rw [List.take_add_one,zIH]
 have:b[i]?.toList = [b.getD i 0]:=by simp [h,List.getD_eq_getElem?_getD]
 rw [this,List.length_take,Nat.min_eq_left (by omega)]
 simp [zEW]
theorem zG3 (b : List zQ) (i : Nat) (h : i < b.length) (h9 : i ≤ 9) :
   BitVec.ofNat 64 (zEW (b.take i)) ||| ((b.getD i 0 &&& ~~~128#8).setWidth 64) <<< (7 * i) = BitVec.ofNat 64 (zEW (b.take (i + 1))):=by
 have hl:=zJf (b.take i)
 rw [List.length_take,Nat.min_eq_left (by omega)] at hl
 have hp:128 ^ i ≤ 128 ^ 9:=Nat.pow_le_pow_right (by omega) h9
 have hp2:(128:Nat) ^ 9 < 2 ^ 64:=by decide
 have hc:(b.getD i 0).toNat % 128 < 128:=Nat.mod_lt _ (by omega)
 rw [zLc b i h]
 apply BitVec.eq_of_toNat_eq
 rw [BitVec.toNat_or,BitVec.toNat_shiftLeft,BitVec.toNat_setWidth,zMG,BitVec.toNat_ofNat,BitVec.toNat_ofNat]
 rw [Nat.mod_eq_of_lt (by omega:(b.getD i 0).toNat % 128 < 2 ^ 64),Nat.mod_eq_of_lt (by omega:zEW (b.take i) < 2 ^ 64)]
 rw [Nat.or_comm,← zau] at *
 have e:2 ^ (7 * i) * ((b.getD i 0).toNat % 128) + zEW (b.take i) = ((b.getD i 0).toNat % 128) <<< (7 * i) ||| zEW (b.take i):=by
   rw [← Nat.shiftLeft_add_eq_or_of_lt hl,Nat.shiftLeft_eq,Nat.mul_comm]
 rw [Nat.add_comm,e,Nat.or_mod_two_pow,Nat.mod_eq_of_lt (by omega:zEW (b.take i) < 2 ^ 64)]
theorem zZj (c:zQ) (i:Nat) (h9:i ≤ 9):((((c &&& ~~~128#8).setWidth 64) <<< (7 * i)) >>> (7 * i) = (c &&& ~~~128#8).setWidth 64) ↔ ¬ (i = 9 ∧ 1 < c.toNat % 128):=by
 have hc:c.toNat % 128 < 128:=Nat.mod_lt _ (by omega)
 rw [← BitVec.toNat_inj]
 rw [BitVec.toNat_ushiftRight,BitVec.toNat_shiftLeft,BitVec.toNat_setWidth,zMG,Nat.shiftLeft_eq,Nat.shiftRight_eq_div_pow,Nat.mod_eq_of_lt (by omega:c.toNat % 128 < 2 ^ 64)]
 generalize c.toNat % 128 = q at *
 by_cases e:i = 9
 · subst e
   rw [show (7 * 9) = 63 by rfl]
   omega
 · have h1 : q * 2 ^ (7 * i) < 2 ^ 64 := by
     have:2 ^ (7 * i) ≤ 2 ^ (7 * 8):=Nat.pow_le_pow_right (by omega) (by omega)
     rw [show 7 * 8 = 56 by rfl] at this
     have:q * 2 ^ (7 * i) ≤ 127 * 2 ^ 56:=Nat.mul_le_mul (by omega) this
     omega
   rw [Nat.mod_eq_of_lt h1,Nat.mul_div_cancel _ (Nat.two_pow_pos _)]
   simp [e]
theorem zCE {b:List zQ} (h:b.length = 0):zCN b = (0#64,0,5):=by unfold zCN;rw [if_pos h]
theorem zBy {b:List zQ} {i:Nat} (h1:i ≤ zA4 10 b) (hi:i < b.length) (h9:i ≤ 9) (hc:(b.getD i 0).toNat < 128) (ho:¬ ((((b.getD i 0 &&& ~~~128#8).setWidth 64) <<< (7 * i)) >>> (7 * i) = (b.getD i 0 &&& ~~~128#8).setWidth 64)):zCN b = (0#64,0,8):=by
 rw [zZj _ _ h9] at ho
 have hn:=zFA 10 i b h1 hi hc
 unfold zCN
 rw [if_neg (by omega),hn,if_neg (by omega),if_neg (by omega),if_pos (by omega)]
theorem zBw {b:List zQ} {i:Nat} (h1:i ≤ zA4 10 b) (hi:i < b.length) (h9:i ≤ 9) (hi0:0 < i) (h0:(b.getD i 0).toNat = 0):zCN b = (0#64,0,7):=by
 have hn:=zFA 10 i b h1 hi (by omega)
 unfold zCN
 rw [if_neg (by omega),hn,if_neg (by omega),if_neg (by omega),if_neg (by omega),if_pos (by omega)]
theorem zCb {b:List zQ} {i:Nat} (h1:i ≤ zA4 10 b) (hi:i < b.length) (h9:i ≤ 9) (hc:(b.getD i 0).toNat < 128) (hov:(((b.getD i 0 &&& ~~~128#8).setWidth 64) <<< (7 * i)) >>> (7 * i) = (b.getD i 0 &&& ~~~128#8).setWidth 64) (h0:¬ ((b.getD i 0).toNat = 0 ∧ 0 < i)):zCN b = (BitVec.ofNat 64 (zEW (b.take (i + 1))),i + 1,0):=by
 rw [zZj _ _ h9] at hov
 have hn:=zFA 10 i b h1 hi hc
 unfold zCN
 rw [if_neg (by omega),hn,if_neg (by omega),if_neg (by omega),if_neg (by omega),if_neg (by omega)]
theorem zBz {b:List zQ} (h1:10 ≤ zA4 10 b):zCN b = (0#64,0,8):=by
 have:=zFz 10 b
 unfold zCN
 rw [if_neg (by omega),if_pos (by omega)]
theorem zBJ {b:List zQ} (h0:0 < b.length) (h1:b.length ≤ zA4 10 b) (hl:b.length < 10):zCN b = (0#64,0,6):=by
 have:=zFz 10 b
 unfold zCN
 rw [if_neg (by omega),if_neg (by omega),if_pos (by omega)]
/-! ### The document's own way -/
/-! ### There and back -/
theorem zRV : ∀ (n k x:Nat) (r:List zQ),zBW x = n + 1 → x < 2 ^ 64 → n ≤ k → (n < k ∨ r = []) → zA4 k (zCP x ++ r) = n:=by
 intro n
 induction n with
 | zero =>
   intro k x r hn hx hk hr
   have h:x < 128:=by
     apply Classical.byContradiction
     intro h
     have:=zCk h hx;have:=zC2 (x / 128);omega
   rw [zDt h]
   cases k with
   | zero=>rfl
   | succ k =>
     simp only [List.singleton_append,zA4]
     rw [if_neg]
     rw [BitVec.toNat_ofNat]
     omega
 | succ n ih =>
   intro k x r hn hx hk hr
   have h:¬ x < 128:=by intro h;have:=zDs h;omega
   have h1:=zCk h hx
   rw [zEj h hx]
   cases k with
   | zero=>omega
   | succ k =>
     simp only [List.cons_append,zA4]
     rw [if_pos (by rw [BitVec.toNat_ofNat];omega),ih k (x / 128) r (by omega) (by omega) (by omega) (hr.imp (by omega) id)]
theorem zUY : ∀ (n x:Nat),zBW x = n → x < 2 ^ 64 → zEW (zCP x) = x:=by
 intro n
 induction n with
 | zero=>intro x hn;have:=zC2 x;omega
 | succ n ih =>
   intro x hn hx
   by_cases h:x < 128
   · rw [zDt h]
     simp only [zEW,BitVec.toNat_ofNat]
     omega
   · have h1:=zCk h hx
     rw [zEj h hx]
     simp only [zEW,BitVec.toNat_ofNat]
     rw [ih (x / 128) (by omega) (by omega)]
     omega
theorem zUS (X:BitVec 64) (r:List zQ):zCN (zCP X.toNat ++ r) = (X,zBW X.toNat,0):=by
 have hx:=X.isLt
 have hp:=zC2 X.toNat
 have hle:=zCx X.toNat
 have hl:(zCP X.toNat).length = zBW X.toNat:=rfl
 have hn:=zRV (zBW X.toNat - 1) 10 X.toNat r (by omega) hx (by omega) (by omega)
 have ht:=zNz (zBW X.toNat - 1) X.toNat (by omega) hx
 have hg:=zJl (zBW X.toNat) (zBW X.toNat - 1) X.toNat rfl hx (by omega)
 rw [if_pos (by omega)] at hg
 have hd:(zCP X.toNat ++ r).getD (zBW X.toNat - 1) 0 = BitVec.ofNat 8 (X.toNat / 128 ^ (zBW X.toNat - 1)):=by
   rw [List.getD_eq_getElem?_getD,List.getElem?_append_left (by omega),hg]
   rfl
 have hdn:((zCP X.toNat ++ r).getD (zBW X.toNat - 1) 0).toNat = X.toNat / 128 ^ (zBW X.toNat - 1):=by
   rw [hd,BitVec.toNat_ofNat]
   generalize X.toNat / 128 ^ (zBW X.toNat - 1) = q at *
   omega
 have h9:zBW X.toNat - 1 = 9 → ¬ 1 < X.toNat / 128 ^ (zBW X.toNat - 1):=by
   intro e
   rw [e,show (128:Nat) ^ 9 = 9223372036854775808 by rfl]
   omega
 have h0:0 < zBW X.toNat - 1 → ¬ X.toNat / 128 ^ (zBW X.toNat - 1) = 0:=by
   intro h0 e
   have:=Nat.div_eq_zero_iff.1 e
   rcases this with h | h
   · have:=Nat.pos_of_ne_zero (n:=128 ^ (zBW X.toNat - 1)) (by intro h;have:=Nat.pow_eq_zero.1 h;omega);omega
   · have:=zW2 (zBW X.toNat - 1) X.toNat (by omega) hx h
     omega
 unfold zCN
 have hla:(zCP X.toNat ++ r).length = zBW X.toNat + r.length:=by rw [List.length_append,hl]
 rw [if_neg (by omega),hn,if_neg (by omega),if_neg (by omega),hdn,if_neg (fun h=>h9 h.1 h.2),if_neg (fun h=>h0 h.2 h.1),show zBW X.toNat - 1 + 1 = zBW X.toNat by omega]
 rw [← hl,List.take_left',zUY _ _ rfl hx]
 · simp
 · rfl
theorem zPM (X:BitVec 64) (i:Nat) (h1:1 ≤ i) (h2:i < zBW X.toNat):zCN ((zCP X.toNat).take i) = (0#64,0,6):=by
 have hle:=zCx X.toNat
 have hl:(zCP X.toNat).length = zBW X.toNat:=rfl
 refine zBJ (by simp;omega) ?_ (by simp;omega)
 have:∀ j,j ≤ i → j ≤ zA4 10 ((zCP X.toNat).take i):=by
   intro j
   induction j with
   | zero=>intro _;omega
   | succ j ih =>
     intro hj
     refine zEv 10 j _ (ih (by omega)) (by omega) (by simp;omega) ?_
     have hg:=zJl (zBW X.toNat) j X.toNat rfl X.isLt (by omega)
     rw [if_neg (by omega)] at hg
     rw [List.getD_eq_getElem?_getD,List.getElem?_take_of_lt (by omega),hg,Option.getD_some,BitVec.toNat_ofNat]
     omega
 have:=this i (Nat.le_refl _)
 simp;omega
theorem zSX : ∀ (n:Nat) (b:List zQ),n < b.length → (∀ j,j < n → 128 ≤ (b.getD j 0).toNat) → (b.getD n 0).toNat < 128 → ¬ ((b.getD n 0).toNat = 0 ∧ 0 < n) → zEW (b.take (n + 1)) < 2 ^ 64 → zCP (zEW (b.take (n + 1))) = b.take (n + 1) ∧ ((b.getD n 0).toNat ≠ 0 → zEW (b.take (n + 1)) ≠ 0):=by
 intro n
 induction n with
 | zero =>
   intro b hb _ hc _ _
   cases b with
   | nil=>simp at hb
   | cons c l =>
     have hc':c.toNat < 128:=by simpa using hc
     simp only [Nat.zero_add,List.take_succ_cons,List.take_zero,zEW,Nat.mul_zero,Nat.add_zero]
     rw [Nat.mod_eq_of_lt hc',zDt hc']
     simp
 | succ n ih =>
   intro b hb hj hc h0 hv
   cases b with
   | nil=>simp at hb
   | cons c l =>
     have hc0:128 ≤ c.toNat:=by simpa using hj 0 (by omega)
     simp only [List.take_succ_cons,zEW] at hv ⊢
     simp only [List.getD_cons_succ] at hc h0
     have:=ih l (by simpa using hb) (fun j h=>by simpa using hj (j + 1) (by omega)) hc (by omega) (by omega)
     have hnz:=this.2 (by omega)
     refine ⟨?_,fun _=>by omega⟩
     rw [zEj (by omega) hv]
     congr 1
     · apply BitVec.eq_of_toNat_eq
       have:=c.isLt
       rw [BitVec.toNat_ofNat]
       omega
     · rw [show (c.toNat % 128 + 128 * zEW (l.take (n + 1))) / 128 = zEW (l.take (n + 1)) by omega]
       exact this.1
theorem zLX : ∀ (k:Nat) (b:List zQ) (j:Nat),j < zA4 k b → 128 ≤ (b.getD j 0).toNat
 | 0,b,j,h=>by simp [zA4] at h
 | k + 1,[],j,h=>by simp [zA4] at h
 | k + 1,c :: l,j,h=>by
   simp only [zA4] at h
   split at h
   · cases j with
     | zero=>simpa
     | succ j=>simpa using zLX k l j (by omega)
   · omega
theorem zIx : ∀ (k:Nat) (b:List zQ),zA4 k b < k → zA4 k b < b.length → (b.getD (zA4 k b) 0).toNat < 128
 | 0,b,h,_=>by omega
 | k + 1,[],_,h=>by simp at h
 | k + 1,c :: l,h1,h2=>by
   simp only [zA4] at *
   split
   · rename_i hc
     rw [if_pos hc] at h1 h2
     simpa using zIx k l (by omega) (by simpa using h2)
   · simp;omega
theorem zJF {b:List zQ} {z:BitVec 64} {k:Nat} (h:zCN b = (z,k,0)):1 ≤ k ∧ k ≤ b.length ∧ zCP z.toNat = b.take k:=by
 have hle:=zFz 10 b
 unfold zCN at h
 split at h
 · simp at h
 split at h
 · simp at h
 split at h
 · simp at h
 split at h
 · simp at h
 split at h
 · simp at h
 rename_i h1 h2 h3 h4 h5
 simp only [Prod.mk.injEq] at h
 obtain ⟨rfl,rfl,_⟩:=h
 have hn:=zIx 10 b (by omega) (by omega)
 have hv:zEW (b.take (zA4 10 b + 1)) < 2 ^ 64:=by
   by_cases e:zA4 10 b = 9
   · rw [zLc b _ (by omega)]
     have:=zJf (b.take (zA4 10 b))
     rw [List.length_take,Nat.min_eq_left (by omega)] at this
     rw [e] at this hn h4 ⊢
     rw [show (128:Nat) ^ 9 = 9223372036854775808 by rfl] at *
     omega
   · have:=zJf (b.take (zA4 10 b + 1))
     rw [List.length_take,Nat.min_eq_left (by omega)] at this
     have:(128:Nat) ^ (zA4 10 b + 1) ≤ 128 ^ 9:=Nat.pow_le_pow_right (by omega) (by omega)
     rw [show (128:Nat) ^ 9 = 9223372036854775808 by rfl] at this
     omega
 refine ⟨by omega,by omega,?_⟩
 rw [BitVec.toNat_ofNat,Nat.mod_eq_of_lt hv]
 exact (zSX (zA4 10 b) b (by omega) (fun j hj=>zLX 10 b j hj) hn h5 hv).1

/-! ### How long a number is -/
def zWl : ByteArray:=(ByteArray.mk (List.toArray (List.append (List.append [0,1,2,2,3,3,3,3,4,4,4,4,4,4,4,4,5,5,5,5,5,5,5,5,5,5,5,5,5,5,5,5,6,6,6,6,6,6,6,6,6,6,6,6,6,6,6,6,6,6,6,6,6,6,6,6,6,6,6,6,6,6,6,6] [7,7,7,7,7,7,7,7,7,7,7,7,7,7,7,7,7,7,7,7,7,7,7,7,7,7,7,7,7,7,7,7,7,7,7,7,7,7,7,7,7,7,7,7,7,7,7,7,7,7,7,7,7,7,7,7,7,7,7,7,7,7,7,7]) (List.append [8,8,8,8,8,8,8,8,8,8,8,8,8,8,8,8,8,8,8,8,8,8,8,8,8,8,8,8,8,8,8,8,8,8,8,8,8,8,8,8,8,8,8,8,8,8,8,8,8,8,8,8,8,8,8,8,8,8,8,8,8,8,8,8] [8,8,8,8,8,8,8,8,8,8,8,8,8,8,8,8,8,8,8,8,8,8,8,8,8,8,8,8,8,8,8,8,8,8,8,8,8,8,8,8,8,8,8,8,8,8,8,8,8,8,8,8,8,8,8,8,8,8,8,8,8,8,8,8]))))
theorem zDX : ∀ Y:BitVec 8,zWl[Y.toNat]? = some (UInt8.ofBitVec (BitVec.ofNat 8 (zAo Y.toNat))):=by decide +kernel
theorem zXj (Y:BitVec 64) (k:Nat) (h:2 ^ k ≤ Y.toNat):zAo Y.toNat = k + zAo (Y >>> k).toNat:=by
 rw [BitVec.toNat_ushiftRight,Nat.shiftRight_eq_div_pow]
 exact zGo k h
theorem zU4 (Y:BitVec 64) (h:Y.toNat < 256):(BitVec.ofNat 8 (zAo (Y.setWidth 8).toNat)).toNat = zAo Y.toNat:=by
 rw [BitVec.toNat_setWidth,Nat.mod_eq_of_lt (by omega),BitVec.toNat_ofNat]
 have:=zDQ (k:=8) h
 omega
theorem zDw (Y:BitVec 64) (k:Nat):(Y >>> k).toNat = Y.toNat / 2 ^ k:=by rw [BitVec.toNat_ushiftRight,Nat.shiftRight_eq_div_pow]
/-! ### The document's Put -/
/-! ### Of either sign -/
def zGC (x:Int):BitVec 64:=if 0 ≤ x then BitVec.ofInt 64 (2 * x) else BitVec.ofInt 64 (-2 * x - 1)
def zN2 (X:BitVec 64):Int:=if X.toNat % 2 = 0 then ((X.toNat / 2:Nat):Int) else -((X.toNat / 2:Nat):Int) - 1
theorem zOQ (p:Int):BitVec.ofInt 64 (IntKind.i64.wrap p) = BitVec.ofInt 64 p:=by
 rw [IntKind.wrap_i64]
 apply BitVec.eq_of_toNat_eq
 simp only [BitVec.toNat_ofInt]
 rw [show ((2 ^ 64:Nat):Int) = 18446744073709551616 by rfl]
 omega
theorem zYp (p:Int) (h : -9223372036854775808 ≤ p ∧ p ≤ 9223372036854775807):BitVec.ofInt 64 (IntKind.i64.wrap (p * 2 ^ (min 1 64))) ^^^ BitVec.ofInt 64 (p.fdiv (2 ^ (min 63 64))) = zGC p:=by
 rw [zOQ]
 unfold zGC
 rw [show (2:Int) ^ (min 1 64) = 2 by decide,show (2:Int) ^ (min 63 64) = 9223372036854775808 by decide,Int.fdiv_eq_ediv_of_nonneg _ (by omega)]
 split
 · rw [show p / 9223372036854775808 = 0 by omega,Int.mul_comm]
   simp
 · rw [show p / 9223372036854775808 = -1 by omega]
   rw [show BitVec.ofInt 64 (-1) = BitVec.allOnes 64 by decide,BitVec.xor_allOnes]
   apply BitVec.eq_of_toNat_eq
   simp only [BitVec.toNat_not,BitVec.toNat_ofInt]
   omega
theorem zZx (X:BitVec 64):(X &&& 1#64).toInt = ((X.toNat % 2:Nat):Int):=by
 rw [BitVec.toInt_eq_toNat_cond,BitVec.toNat_and]
 simp [Nat.and_one_is_mod]
 omega
theorem zZO (X:BitVec 64):(BitVec.ofInt 64 (X >>> 1).toInt ^^^ BitVec.ofInt 64 (-(X &&& 1#64).toInt)).toInt = zN2 X:=by
 rw [zZx,BitVec.ofInt_toInt]
 have hx:=X.isLt
 unfold zN2
 split
 · rename_i h
   rw [h]
   simp only [Int.natCast_zero,Int.neg_zero]
   rw [show BitVec.ofInt 64 0 = 0#64 by decide,BitVec.xor_zero,BitVec.toInt_eq_toNat_cond,zDw]
   rw [Nat.pow_one]
   split <;> omega
 · rename_i h
   rw [show X.toNat % 2 = 1 by omega]
   rw [show BitVec.ofInt 64 (-((1:Nat):Int)) = BitVec.allOnes 64 by decide,BitVec.xor_allOnes,BitVec.toInt_eq_toNat_cond,BitVec.toNat_not,zDw]
   rw [Nat.pow_one]
   split <;> omega
theorem zFr (X:BitVec 64) : -9223372036854775808 ≤ zN2 X ∧ zN2 X ≤ 9223372036854775807:=by
 have hx:=X.isLt
 unfold zN2
 split <;> omega
theorem zWR (p:Int) (h : -9223372036854775808 ≤ p ∧ p ≤ 9223372036854775807):zN2 (zGC p) = p:=by
 unfold zGC
 split
 · unfold zN2
   rw [BitVec.toNat_ofInt]
   split <;> omega
 · unfold zN2
   rw [BitVec.toNat_ofInt]
   split <;> omega
theorem zIS {b:List zQ} (h:(zCN b).2.2 = 0):1 ≤ (zCN b).2.1 ∧ (zCN b).2.1 ≤ b.length ∧ zCP (zCN b).1.toNat = b.take (zCN b).2.1 :=
 zJF (z:=(zCN b).1) (k:=(zCN b).2.1) (by rw [← h])
end Go.Sx

set_option linter.unusedVariables false
set_option linter.unusedSimpArgs false
namespace Go.Sx
structure Rs where
 p:Nat
 e:Nat
def zH (bs:List zQ) (R:Rs):zQ × Rs:=if R.e ≠ 0 then (0#8,R) else if bs.length ≤ R.p then (0#8,⟨R.p,6⟩) else (bs.getD R.p 0,⟨R.p + 1,0⟩)
def zIX (b:List zQ) (X:BitVec 64):Nat:=if (zCN b).2.2 = 0 ∧ X.toNat < (zCN b).1.toNat then 3 else (zCN b).2.2
def zP (bs:List zQ) (X:BitVec 64) (R:Rs):BitVec 64 × Rs :=
 if R.e ≠ 0 then (0#64,R) else if bs.length ≤ R.p then (0#64,⟨R.p,6⟩) else if zIX (bs.drop R.p) X ≠ 0 then (0#64,⟨R.p,zIX (bs.drop R.p) X⟩) else ((zCN (bs.drop R.p)).1,⟨R.p + (zCN (bs.drop R.p)).2.1,0⟩)
def zAA (bs:List zQ) (R:Rs):Int × Rs:=(zN2 (zP bs 18446744073709551615#64 R).1,(zP bs 18446744073709551615#64 R).2)
def zBh (e:Nat) (R:Rs):Rs:=if R.e = 0 then ⟨R.p,e⟩ else R
def zIT (bs:List zQ) (R:Rs):Nat:=if R.e ≠ 0 ∨ bs.length ≤ R.p then R.e else 8
def zYV (bs:List zQ) (R:Rs):Rs:=(zAA bs (zAA bs (zAA bs R).2).2).2
theorem zLz {b:List zQ} {X:BitVec 64} (h:zIX b X = 0):(zCN b).2.2 = 0 ∧ ¬ X.toNat < (zCN b).1.toNat:=by
 unfold zIX at h
 split at h
 · cases h
 · rename_i h'
   exact ⟨h,fun h2=>h' ⟨h,h2⟩⟩
theorem zR7 {b:List zQ} {X:BitVec 64} (h:zIX b X = 0):1 ≤ (zCN b).2.1 ∧ (zCN b).2.1 ≤ b.length:=by
 have:=zIS (zLz h).1
 exact ⟨this.1,this.2.1⟩
theorem zUl (b:List zQ):(zCN b).2.1 ≤ 10:=by
 have:=zFz 10 b
 unfold zCN
 repeat' split
 all_goals simp
 omega
theorem zCg {bs:List zQ} {X:BitVec 64} {R:Rs} (h:R.e ≠ 0):zP bs X R = (0#64,R):=by unfold zP;rw [if_pos h]
theorem zCV {bs:List zQ} {X:BitVec 64} {R:Rs} (h:R.e = 0) (h1:bs.length ≤ R.p):zP bs X R = (0#64,⟨R.p,6⟩):=by unfold zP;rw [if_neg (by omega),if_pos h1]
theorem zDm {bs:List zQ} {X:BitVec 64} {R:Rs} (h:R.e = 0) (h1:¬ bs.length ≤ R.p) (h2:zIX (bs.drop R.p) X ≠ 0):zP bs X R = (0#64,⟨R.p,zIX (bs.drop R.p) X⟩):=by unfold zP;rw [if_neg (by omega),if_neg h1,if_pos h2]
theorem zC8 {bs:List zQ} {X:BitVec 64} {R:Rs} (h:R.e = 0) (h1:¬ bs.length ≤ R.p) (h2:zIX (bs.drop R.p) X = 0):zP bs X R = ((zCN (bs.drop R.p)).1,⟨R.p + (zCN (bs.drop R.p)).2.1,0⟩):=by unfold zP;rw [if_neg (by omega),if_neg h1,if_neg (by omega)]
theorem zDo {bs:List zQ} {R:Rs} (h:R.e ≠ 0):zH bs R = (0#8,R):=by unfold zH;rw [if_pos h]
theorem zDD {bs:List zQ} {R:Rs} (h:R.e = 0) (h1:bs.length ≤ R.p):zH bs R = (0#8,⟨R.p,6⟩):=by unfold zH;rw [if_neg (by omega),if_pos h1]
theorem zDn {bs:List zQ} {R:Rs} (h:R.e = 0) (h1:¬ bs.length ≤ R.p):zH bs R = (bs.getD R.p 0,⟨R.p + 1,0⟩):=by unfold zH;rw [if_neg (by omega),if_neg h1]
theorem zA1 {bs:List zQ} {X:BitVec 64} {R:Rs} (h:R.p ≤ bs.length):(zP bs X R).2.p ≤ bs.length ∧ R.p ≤ (zP bs X R).2.p ∧ (zP bs X R).2.p ≤ R.p + 10 ∧ (zP bs X R).1.toNat ≤ X.toNat ∧ (R.e ≠ 0 → zP bs X R = (0#64,R)):=by
 by_cases h0:R.e = 0
 · by_cases h1:bs.length ≤ R.p
   · rw [zCV h0 h1];simp;omega
   · by_cases h2:zIX (bs.drop R.p) X = 0
     · rw [zC8 h0 h1 h2]
       have:=zR7 h2
       have h3:=zUl (bs.drop R.p)
       have h4:=(zLz h2).2
       simp only [List.length_drop] at this
       simp [h0]
       omega
     · rw [zDm h0 h1 h2];simp [h0];omega
 · rw [zCg h0];simp;omega
theorem zD9 {bs:List zQ} {R:Rs} (h:R.p ≤ bs.length):(zH bs R).2.p ≤ bs.length ∧ R.p ≤ (zH bs R).2.p ∧ (zH bs R).2.p ≤ R.p + 1 ∧ (R.e ≠ 0 → zH bs R = (0#8,R)):=by
 by_cases h0:R.e = 0
 · by_cases h1:bs.length ≤ R.p
   · rw [zDD h0 h1];simp [h0];omega
   · rw [zDn h0 h1];simp [h0];omega
 · rw [zDo h0];simp;omega
theorem zDJ {bs:List zQ} {R:Rs} (h:R.p ≤ bs.length):(zAA bs R).2.p ≤ bs.length ∧ R.p ≤ (zAA bs R).2.p ∧ (zAA bs R).2.p ≤ R.p + 10 ∧ (R.e ≠ 0 → zAA bs R = (0,R)):=by
 have:=zA1 (X:=18446744073709551615#64) h
 refine ⟨this.1,this.2.1,this.2.2.1,fun h0=>?_⟩
 unfold zAA
 rw [this.2.2.2.2 h0]
 simp [zN2]
theorem zWx {bs:List zQ} {R:Rs} (h:R.p ≤ bs.length):(zYV bs R).p ≤ bs.length ∧ R.p ≤ (zYV bs R).p ∧ (zYV bs R).p ≤ R.p + 30:=by
 have h1:=zDJ h
 have h2:=zDJ h1.1
 have h3:=zDJ h2.1
 unfold zYV
 omega
theorem zBU {bs:List zQ} {e:Nat} {R:Rs} (h:R.p ≤ bs.length):(zBh e R).p ≤ bs.length ∧ (zBh e R).p = R.p ∧ (R.e = 0 → (zBh e R).e = e) ∧ (R.e ≠ 0 → (zBh e R).e = R.e):=by
 unfold zBh
 split
 · rename_i h0;simp [h,h0]
 · rename_i h0;simp [h,h0]
theorem zOr {bs:List zQ} {R:Rs} (h:R.e ≠ 0):(zH bs R).2.p = R.p ∧ (zH bs R).2.e = R.e ∧ (zH bs R).1.toNat = 0:=by rw [zDo h];simp
theorem zIi {bs:List zQ} {X:BitVec 64} {R:Rs} (h:R.e ≠ 0):(zP bs X R).2.p = R.p ∧ (zP bs X R).2.e = R.e ∧ (zP bs X R).1.toNat = 0:=by rw [zCg h];simp
theorem zLL {bs:List zQ} {R:Rs} (h:R.e ≠ 0):(zAA bs R).2.p = R.p ∧ (zAA bs R).2.e = R.e ∧ (zAA bs R).1 = 0:=by
 unfold zAA
 rw [zCg h]
 simp [zN2]
end Go.Sx

set_option linter.unusedVariables false
set_option linter.unusedSimpArgs false
namespace Go.Sx
structure zAC where
 k:Int
 id:Int
 p0:Int
 p1:Int
 p2:Int
 v0:Int
 v1:Int
 v2:Int
 a:BitVec 16
instance : Inhabited zAC:=⟨⟨0,0,0,0,0,0,0,0,0#16⟩⟩
structure zAC.wf (r:zAC):Prop where
 k : -9223372036854775808 ≤ r.k ∧ r.k ≤ 9223372036854775807
 id : -9223372036854775808 ≤ r.id ∧ r.id ≤ 9223372036854775807
 p0 : -9223372036854775808 ≤ r.p0 ∧ r.p0 ≤ 9223372036854775807
 p1 : -9223372036854775808 ≤ r.p1 ∧ r.p1 ≤ 9223372036854775807
 p2 : -9223372036854775808 ≤ r.p2 ∧ r.p2 ≤ 9223372036854775807
 v0 : -9223372036854775808 ≤ r.v0 ∧ r.v0 ≤ 9223372036854775807
 v1 : -9223372036854775808 ≤ r.v1 ∧ r.v1 ≤ 9223372036854775807
 v2 : -9223372036854775808 ≤ r.v2 ∧ r.v2 ≤ 9223372036854775807
theorem zAC.wf.facts {r:zAC} (h:r.wf):(-9223372036854775808 ≤ r.k ∧ r.k ≤ 9223372036854775807) ∧ (-9223372036854775808 ≤ r.id ∧ r.id ≤ 9223372036854775807) ∧ (-9223372036854775808 ≤ r.p0 ∧ r.p0 ≤ 9223372036854775807) ∧ (-9223372036854775808 ≤ r.p1 ∧ r.p1 ≤ 9223372036854775807) ∧ (-9223372036854775808 ≤ r.p2 ∧ r.p2 ≤ 9223372036854775807) ∧
 (-9223372036854775808 ≤ r.v0 ∧ r.v0 ≤ 9223372036854775807) ∧ (-9223372036854775808 ≤ r.v1 ∧ r.v1 ≤ 9223372036854775807) ∧ (-9223372036854775808 ≤ r.v2 ∧ r.v2 ≤ 9223372036854775807):=⟨h.k,h.id,h.p0,h.p1,h.p2,h.v0,h.v1,h.v2⟩
def zKH (r:zAC):List Value:=[.int .i64 r.k,.int .i64 r.id,.int .i64 r.p0,.int .i64 r.p1,.int .i64 r.p2,.int .i64 r.v0,.int .i64 r.v1,.int .i64 r.v2,.int .u16 ((r.a.toNat:Nat):Int)]
def zAC.num (r:zAC):Nat → Int
 | 0=>r.p0
 | 1=>r.p1
 | 2=>r.p2
 | 3=>r.v0
 | 4=>r.v1
 | _=>r.v2
def zBI (r:zAC):Bool:=r.p0 == 0 && r.p1 == 0 && r.p2 == 0 && r.v0 == 0 && r.v1 == 0 && r.v2 == 0 && (((r.a.toNat:Nat):Int) == 0)
def zAf (r:zAC):Nat:=if r.k < 0 ∨ 3 < r.k then 11 else if r.id < 0 ∨ 65535 < r.id then 3 else if r.k = 1 ∧ zBI r = true ∨ r.k = 2 ∧ zBI r = false then 2 else 0
theorem zLt (r:zAC):zAI [.int .i64 r.k,.int .i64 r.id,.int .i64 r.p0,.int .i64 r.p1,.int .i64 r.p2,.int .i64 r.v0,.int .i64 r.v1,.int .i64 r.v2,.int .u16 ((r.a.toNat:Nat):Int)] [.int .i64 r.k,.int .i64 r.id,.int .i64 0,.int .i64 0,.int .i64 0,.int .i64 0,.int .i64 0,.int .i64 0,.int .u16 0] = zBI r:=by
 simp [zAI,vEq,zBI,Bool.and_assoc]
theorem zPf (r:zAC):zAf r ≤ 11:=by
 unfold zAf;repeat' split
 all_goals omega
theorem zNK {r:zAC} (h:zAf r = 0):0 ≤ r.k ∧ r.k ≤ 3 ∧ 0 ≤ r.id ∧ r.id ≤ 65535:=by
 unfold zAf at h
 split at h
 · cases h
 · split at h
   · cases h
   · omega
def zDS (x:Int):List zQ:=zCP (zGC x).toNat
theorem zAG (x:Int):(zDS x).length ≤ 10 ∧ 1 ≤ (zDS x).length:=by
 have:=zCx (zGC x).toNat
 have:=zC2 (zGC x).toNat
 unfold zDS
 simp only [zBW] at *
 omega
def zBZ (r:zAC):List zQ:=zDS r.p0 ++ zDS r.p1 ++ zDS r.p2 ++ zDS r.v0 ++ zDS r.v1 ++ zDS r.v2 ++ zCP r.a.toNat
def zAu (r:zAC):Nat → BitVec 8
 | 0=>0#8
 | i + 1=>if r.num i = 0 then zAu r i else zAu r i ||| (1#8 <<< i)
def zAc (r:zAC):Nat → List zQ
 | 0=>[]
 | i + 1=>if r.num i = 0 then zAc r i else zAc r i ++ zDS (r.num i)
def zCX (r:zAC):BitVec 8:=if r.a = 0#16 then zAu r 6 else zAu r 6 ||| 64#8
def zGQ (r:zAC):List zQ:=if r.a = 0#16 then zAc r 6 else zAc r 6 ++ zCP r.a.toNat
def zBK (r:zAC):List zQ:=zCX r :: zGQ r
def zD7 (r:zAC):List zQ:=if r.k = 1 then zBK r else if r.k = 2 then [] else zBZ r
def zAz (r:zAC) (last:Int):Nat:=if zAf r ≠ 0 then zAf r else if last < -1 ∨ 65535 < last then 3 else if r.id ≤ last then 10 else 0
def zAW (r:zAC) (last:Int):List zQ:=zCP (BitVec.ofInt 64 (r.id - last - 1)).toNat ++ [BitVec.ofInt 8 r.k]
def zCd (r:zAC) (last:Int):List zQ:=if zAz r last ≠ 0 then [] else zAW r last ++ zD7 r
theorem zNE {r:zAC} {i:Nat} (h:r.num i = 0):zAu r (i + 1) = zAu r i:=by simp [zAu,h]
theorem zMx {r:zAC} {i:Nat} (h:r.num i ≠ 0):zAu r (i + 1) = zAu r i ||| (1#8 <<< i):=by simp [zAu,h]
theorem zHE {r:zAC} {i:Nat} (h:r.num i = 0):zAc r (i + 1) = zAc r i:=by simp [zAc,h]
theorem zHG {r:zAC} {i:Nat} (h:r.num i ≠ 0):zAc r (i + 1) = zAc r i ++ zDS (r.num i):=by simp [zAc,h]
theorem zBT (r:zAC):∀ i,(zAc r i).length ≤ 10 * i:=by
 intro i
 induction i with
 | zero=>simp [zAc]
 | succ i ih =>
   unfold zAc
   have:=zAG (r.num i)
   split
   · omega
   · simp;omega
theorem zEC (n:Nat):(zCP n).length ≤ 10:=by have:=zCx n;simpa [zBW] using this
theorem zH1 (r:zAC) (last:Int):(zCd r last).length ≤ 100:=by
 unfold zCd
 split
 · simp
 · have h1:=zEC (BitVec.ofInt 64 (r.id - last - 1)).toNat
   have h2:=zEC r.a.toNat
   have h3:=zBT r 6
   have n0:=zAG r.p0
   have n1:=zAG r.p1
   have n2:=zAG r.p2
   have n3:=zAG r.v0
   have n4:=zAG r.v1
   have n5:=zAG r.v2
   unfold zAW zD7
   split
   · unfold zBK zGQ
     split <;> simp only [List.length_append,List.length_cons,List.length_nil] <;> omega
   · split
     · simp only [List.length_append,List.length_cons,List.length_nil];omega
     · unfold zBZ;simp only [List.length_append,List.length_cons,List.length_nil];omega
theorem zM4 {bs l:List zQ} {x:zQ} {m:Nat} (h:bs.length = m):(bs ++ x :: l).getD m 0 = x:=by
 subst h
 simp [List.getD_eq_getElem?_getD]
theorem zQC {bs l:List zQ} {x y:zQ} {m:Nat} (h:bs.length = m):(bs ++ x :: l).set m y = bs ++ y :: l:=by
 subst h
 simp
theorem zUD (a:BitVec 16):(a.setWidth 64).toNat = a.toNat:=by
 rw [BitVec.toNat_setWidth]
 have:=a.isLt
 omega
theorem zQD {a:BitVec 16} (h:((a.toNat:Nat):Int) = 0):a = 0#16:=BitVec.eq_of_toNat_eq (by simpa using h)
theorem zYi {a:BitVec 16} (h:((a.toNat:Nat):Int) ≠ 0):a ≠ 0#16:=fun e=>h (by subst e;rfl)
theorem zBY {r:zAC} (h:((r.a.toNat:Nat):Int) = 0):zBK r = zAu r 6 :: zAc r 6:=by
 unfold zBK zCX zGQ
 rw [if_pos (zQD h),if_pos (zQD h)]
theorem zBc {r:zAC} (h:((r.a.toNat:Nat):Int) ≠ 0):zBK r = (zAu r 6 ||| 64#8) :: (zAc r 6 ++ zCP r.a.toNat):=by
 unfold zBK zCX zGQ
 rw [if_neg (zYi h),if_neg (zYi h)]
theorem zIU (r:zAC):(zBK r).length ≤ 71:=by
 have h2:=zEC r.a.toNat
 have h3:=zBT r 6
 unfold zBK zGQ
 split <;> simp only [List.length_append,List.length_cons] <;> omega
theorem zJU (r:zAC):(zBZ r).length ≤ 70:=by
 have h2:=zEC r.a.toNat
 have n0:=zAG r.p0
 have n1:=zAG r.p1
 have n2:=zAG r.p2
 have n3:=zAG r.v0
 have n4:=zAG r.v1
 have n5:=zAG r.v2
 unfold zBZ
 simp only [List.length_append]
 omega
theorem zDb {r:zAC} {last:Int} (h:zAz r last ≠ 0):zCd r last = []:=by unfold zCd;rw [if_pos h]
theorem zBH {r:zAC} {last:Int} (h:zAz r last = 0) (hk:r.k = 0 ∨ r.k = 3):zCd r last = zAW r last ++ zBZ r:=by
 unfold zCd zD7
 rw [if_neg (by omega),if_neg (by omega),if_neg (by omega)]
theorem zAR {r:zAC} {last:Int} (h:zAz r last = 0) (hk:r.k = 1):zCd r last = zAW r last ++ zBK r:=by
 unfold zCd zD7
 rw [if_neg (by omega),if_pos hk]
theorem zAx {r:zAC} {last:Int} (h:zAz r last = 0) (hk:r.k = 2):zCd r last = zAW r last:=by
 unfold zCd zD7
 rw [if_neg (by omega),if_neg (by omega),if_pos hk,List.append_nil]
theorem zB5 {r:zAC} {last:Int} (h:zAf r ≠ 0):zAz r last = zAf r:=by unfold zAz;rw [if_pos h]
theorem zB8 {r:zAC} {last:Int} (h:zAf r = 0) (h2:last < -1 ∨ 65535 < last):zAz r last = 3:=by unfold zAz;rw [if_neg (by omega),if_pos h2]
theorem zB9 {r:zAC} {last:Int} (h:zAf r = 0) (h2:¬ (last < -1 ∨ 65535 < last)) (h3:r.id ≤ last):zAz r last = 10:=by unfold zAz;rw [if_neg (by omega),if_neg h2,if_pos h3]
theorem zCn {r:zAC} {last:Int} (h:zAf r = 0) (h2:¬ (last < -1 ∨ 65535 < last)) (h3:¬ r.id ≤ last):zAz r last = 0:=by unfold zAz;rw [if_neg (by omega),if_neg h2,if_neg h3]
theorem zIR (r:zAC) (last:Int):(zAW r last).length ≤ 11:=by
 have h1:=zEC (BitVec.ofInt 64 (r.id - last - 1)).toNat
 unfold zAW
 simp only [List.length_append,List.length_cons,List.length_nil]
 omega
theorem zC3 {r:zAC} {last:Int} (h:zAz r last = 0):0 ≤ r.id ∧ r.id ≤ 65535 ∧ -1 ≤ last ∧ last < r.id:=by
 unfold zAz at h
 split at h
 · omega
 · rename_i h0
   have h1:=zNK (r:=r) (by omega)
   split at h
   · cases h
   · split at h
     · cases h
     · omega
end Go.Sx

set_option linter.unusedVariables false
set_option linter.unusedSimpArgs false
namespace Go.Sx
def zVI (m:BitVec 8):Nat → BitVec 8
 | 0=>m
 | i + 1=>zVI m i / 2#8
theorem zRZ (m:BitVec 8):∀ i,zVI m i = m >>> i
 | 0=>by simp [zVI]
 | i + 1=>by
   unfold zVI
   rw [zRZ m i]
   apply BitVec.eq_of_toNat_eq
   rw [BitVec.toNat_udiv,BitVec.toNat_ushiftRight,BitVec.toNat_ushiftRight,Nat.shiftRight_succ]
   rfl
def zBq (m:BitVec 8) (i:Nat):Bool:=((zVI m i).toNat % 2) == 1
def upI (bs:List zQ) (m:BitVec 8) (i:Nat) (R:Rs):Int × Rs :=
 if zBq m i = true then ((zAA bs R).1,if (zAA bs R).1 = 0 then zBh 7 (zAA bs R).2 else (zAA bs R).2) else (0,R)
def upS (bs:List zQ) (m:BitVec 8) (R:Rs):Nat → Rs
 | 0=>R
 | i + 1=>(upI bs m i (upS bs m R i)).2
def upX (bs:List zQ) (m:BitVec 8) (R:Rs) (i:Nat):Int:=(upI bs m i (upS bs m R i)).1
def upA (bs:List zQ) (m:BitVec 8) (R:Rs):BitVec 16 × Rs :=
 if zBq m 6 = true then (((zP bs 65535#64 R).1).setWidth 16,if (zP bs 65535#64 R).1 = 0#64 then zBh 7 (zP bs 65535#64 R).2 else (zP bs 65535#64 R).2) else (0#16,R)
def zA3 (bs:List zQ) (k id:Int) (R:Rs):zAC × Rs :=
 let q:=zH bs R
 if q.1.toNat = 0 ∨ 127 < q.1.toNat then (⟨k,id,0,0,0,0,0,0,0#16⟩,zBh 7 q.2)
 else (⟨k,id,upX bs q.1 q.2 0,upX bs q.1 q.2 1,upX bs q.1 q.2 2,upX bs q.1 q.2 3,upX bs q.1 q.2 4,upX bs q.1 q.2 5,(upA bs q.1 (upS bs q.1 q.2 6)).1⟩,(upA bs q.1 (upS bs q.1 q.2 6)).2)
def nS (bs:List zQ) (R:Rs):Nat → Rs
 | 0=>R
 | i + 1=>(zAA bs (nS bs R i)).2
def nX (bs:List zQ) (R:Rs) (i:Nat):Int:=(zAA bs (nS bs R i)).1
def zCC (bs:List zQ) (k id:Int) (R:Rs):zAC × Rs :=
 (⟨k,id,nX bs R 0,nX bs R 1,nX bs R 2,nX bs R 3,nX bs R 4,nX bs R 5,((zP bs 65535#64 (nS bs R 6)).1).setWidth 16⟩,(zP bs 65535#64 (nS bs R 6)).2)
def zA8 (bs:List zQ) (k id:Int) (R:Rs):zAC × Rs :=
 if k = 0 ∨ k = 3 then zCC bs k id R else if k = 1 then zA3 bs k id R else if k = 2 then (⟨k,id,0,0,0,0,0,0,0#16⟩,R) else (⟨k,id,0,0,0,0,0,0,0#16⟩,zBh 11 R)
def zO5 : zAC:=⟨0,0,0,0,0,0,0,0,0#16⟩
def zQS (bs:List zQ) (last:Int) (R:Rs):BitVec 64 × Rs:=zP bs (BitVec.ofInt 64 (65534 - last)) R
def zEJ (bs:List zQ) (last:Int) (R:Rs):zAC × Rs :=
 zA8 bs (((zH bs (zQS bs last R).2).1.toNat:Nat):Int) (last + 1 + (((zQS bs last R).1.toNat:Nat):Int)) (zH bs (zQS bs last R).2).2
def zAF (bs:List zQ) (last:Int) (R:Rs):zAC × Nat × Rs :=
 if last < -1 ∨ 65535 < last then (zO5,3,R) else if last = 65535 then (zO5,(zBh 10 R).e,zBh 10 R)
 else if (zEJ bs last R).2.e ≠ 0 then (zO5,(zEJ bs last R).2.e,(zEJ bs last R).2) else ((zEJ bs last R).1,0,(zEJ bs last R).2)
def za6 (r:zAC):Nat → List zQ
 | 0=>[]
 | i + 1=>za6 r i ++ zDS (r.num i)
theorem zGq (r:zAC):za6 r 6 = zDS r.p0 ++ zDS r.p1 ++ zDS r.p2 ++ zDS r.v0 ++ zDS r.v1 ++ zDS r.v2:=rfl
def upQ (bs:List zQ) (m:BitVec 8) (R:Rs) (i j:Nat):Int:=if j < i then upX bs m R j else 0
section
variable {bs : List zQ} {m : BitVec 8} {R : Rs} {i : Nat} {p q z : Value}
theorem zYu (h:upX bs m R i = 0) (j:Nat):upQ bs m R i j = upQ bs m R (i + 1) j:=by
 unfold upQ
 by_cases h1:j < i
 · rw [if_pos h1,if_pos (by omega)]
 · by_cases h2:j = i
   · subst h2;rw [if_neg h1,if_pos (by omega),h]
   · rw [if_neg h1,if_neg (by omega)]
theorem six {i:Nat} (h:i < 6):i = 0 ∨ i = 1 ∨ i = 2 ∨ i = 3 ∨ i = 4 ∨ i = 5:=by omega
theorem zWi (h:i < 6) : [p,q,zI (upQ bs m R i 0),zI (upQ bs m R i 1),zI (upQ bs m R i 2),zI (upQ bs m R i 3),zI (upQ bs m R i 4),zI (upQ bs m R i 5),z].set (2 + i) (zI (upX bs m R i)) = [p,q,zI (upQ bs m R (i + 1) 0),zI (upQ bs m R (i + 1) 1),zI (upQ bs m R (i + 1) 2),zI (upQ bs m R (i + 1) 3),zI (upQ bs m R (i + 1) 4),zI (upQ bs m R (i + 1) 5),z]:=by
 rcases six h with rfl | rfl | rfl | rfl | rfl | rfl <;> simp [upQ]
theorem zWj (h:i < 6) : [p,q,zI (upQ bs m R (i + 1) 0),zI (upQ bs m R (i + 1) 1),zI (upQ bs m R (i + 1) 2),zI (upQ bs m R (i + 1) 3),zI (upQ bs m R (i + 1) 4),zI (upQ bs m R (i + 1) 5),z][2 + i]? = some (zI (upX bs m R i)):=by
 rcases six h with rfl | rfl | rfl | rfl | rfl | rfl <;> simp [upQ]
theorem zVY {g:Nat} (h:i < 6) : [pt g 2,pt g 3,pt g 4,pt g 5,pt g 6,pt g 7][((i:Nat):Int).toNat]? = some (pt g (2 + i)):=by
 rcases six h with rfl | rfl | rfl | rfl | rfl | rfl <;> rfl
theorem zV8 {r:zAC} (hw:r.wf) (h:i < 6) : -9223372036854775808 ≤ r.num i ∧ r.num i ≤ 9223372036854775807:=by
 rcases six h with rfl | rfl | rfl | rfl | rfl | rfl
 · exact hw.p0
 · exact hw.p1
 · exact hw.p2
 · exact hw.v0
 · exact hw.v1
 · exact hw.v2
theorem zRy {r:zAC} (h:i < 6) : [p,q,zI r.p0,zI r.p1,zI r.p2,zI r.v0,zI r.v1,zI r.v2,z][2 + i]? = some (zI (r.num i)):=by
 rcases six h with rfl | rfl | rfl | rfl | rfl | rfl <;> rfl
end
theorem zUJ {m:BitVec 8} {i:Nat}:zBq m i = true ↔ (zVI m i).toNat % 2 = 1:=by unfold zBq;simp
theorem zVF (m:BitVec 8) (i:Nat):((m >>> i) &&& 1#8).toNat = (zVI m i).toNat % 2:=by
 rw [BitVec.toNat_and,show (1#8).toNat = 1 from rfl,Nat.and_one_is_mod,zRZ]
theorem zYD {m:BitVec 8} {i:Nat} (h:((((m >>> i) &&& 1#8).toNat:Nat):Int) = 0):zBq m i = false:=by
 rw [zVF] at h
 unfold zBq
 rw [show (zVI m i).toNat % 2 = 0 by omega]
 rfl
theorem zYI {m:BitVec 8} {i:Nat} (h:((((m >>> i) &&& 1#8).toNat:Nat):Int) ≠ 0):zBq m i = true:=by
 rw [zVF] at h
 rw [zUJ]
 omega
theorem zYv (m:BitVec 8):(m &&& 64#8).toNat = 0 ↔ zBq m 6 = false:=by
 have key:∀ m:BitVec 8,(m &&& 64#8).toNat = 0 ↔ zBq m 6 = false:=by decide +kernel
 exact key m
theorem zSW {m:BitVec 8} (h:(((m &&& 64#8).toNat:Nat):Int) = 0):zBq m 6 = false:=(zYv m).1 (by omega)
theorem zT7 {m:BitVec 8} (h:(((m &&& 64#8).toNat:Nat):Int) ≠ 0):zBq m 6 = true:=by
 cases hb:zBq m 6 with
 | true=>rfl
 | false=>exact absurd ((zYv m).2 hb) (by omega)
theorem zVv {bs:List zQ} {m:BitVec 8} {R:Rs} (h:zBq m 6 = false):upA bs m R = (0#16,R):=by unfold upA;rw [if_neg (by rw [h];decide)]
theorem zXv {bs:List zQ} {m:BitVec 8} {R:Rs} (h:zBq m 6 = true) (h2:(zP bs 65535#64 R).1.toNat = 0):upA bs m R = ((zP bs 65535#64 R).1.setWidth 16,zBh 7 (zP bs 65535#64 R).2):=by
 unfold upA
 rw [if_pos h,if_pos (BitVec.eq_of_toNat_eq h2)]
theorem zXg {bs:List zQ} {m:BitVec 8} {R:Rs} (h:zBq m 6 = true) (h2:(zP bs 65535#64 R).1.toNat ≠ 0):upA bs m R = ((zP bs 65535#64 R).1.setWidth 16,(zP bs 65535#64 R).2):=by
 unfold upA
 rw [if_pos h,if_neg (fun e=>h2 (by rw [e];rfl))]
theorem zbM {X:BitVec 64} (h:X.toNat ≤ 65535):(X.setWidth 16).toNat = X.toNat:=by
 rw [BitVec.toNat_setWidth]
 omega
theorem zH8 {X:BitVec 64} (h:X.toNat ≤ 65535):X.toInt = ((X.toNat:Nat):Int):=by
 rw [BitVec.toInt_eq_toNat_cond,if_pos (by omega)]
theorem zD2 {x:Int} (h:0 ≤ x) (h2:x ≤ 9223372036854775807):(((BitVec.ofInt 64 x).toNat:Nat):Int) = x:=by
 rw [BitVec.toNat_ofInt]
 omega
theorem zbP {bs:List zQ} {m:BitVec 8} {R:Rs} {i:Nat} (h:zBq m i = true) (h2:(zAA bs (upS bs m R i)).1 = 0):upS bs m R (i + 1) = zBh 7 (zAA bs (upS bs m R i)).2:=by
 show (upI _ _ _ _).2 = _
 unfold upI
 rw [if_pos h]
 dsimp only
 rw [if_pos h2]
theorem zbL {bs:List zQ} {m:BitVec 8} {R:Rs} {i:Nat} (h:zBq m i = true) (h2:(zAA bs (upS bs m R i)).1 ≠ 0):upS bs m R (i + 1) = (zAA bs (upS bs m R i)).2:=by
 show (upI _ _ _ _).2 = _
 unfold upI
 rw [if_pos h]
 dsimp only
 rw [if_neg h2]
theorem zax {bs:List zQ} {m:BitVec 8} {R:Rs} {i:Nat} (h:zBq m i = true):upX bs m R i = (zAA bs (upS bs m R i)).1:=by
 unfold upX upI
 rw [if_pos h]
theorem zaz {bs:List zQ} {m:BitVec 8} {R:Rs} {i:Nat} (h:zBq m i = false):upS bs m R (i + 1) = upS bs m R i:=by
 show (upI _ _ _ _).2 = _
 unfold upI
 rw [if_neg (by rw [h];decide)]
theorem zay {bs:List zQ} {m:BitVec 8} {R:Rs} {i:Nat} (h:zBq m i = false):upX bs m R i = 0:=by
 unfold upX upI
 rw [if_neg (by rw [h];decide)]
theorem zZ5 {bs:List zQ} {m:BitVec 8} {i:Nat} {R:Rs} (h:R.p ≤ bs.length):(upI bs m i R).2.p ≤ bs.length ∧ R.p ≤ (upI bs m i R).2.p ∧ (upI bs m i R).2.p ≤ R.p + 10:=by
 unfold upI
 have h1:=zDJ h
 split
 · dsimp only
   split
   · have:=zBU (e:=7) h1.1;omega
   · omega
 · dsimp only;omega
theorem zKq {bs:List zQ} {m:BitVec 8} {R:Rs} (h:R.p ≤ bs.length):∀ i,(upS bs m R i).p ≤ bs.length ∧ R.p ≤ (upS bs m R i).p ∧ (upS bs m R i).p ≤ R.p + 10 * i
 | 0=>by simp [upS,h]
 | i + 1=>by
   have h1:=zKq h i (m:=m)
   have h2:=zZ5 (m:=m) (i:=i) h1.1
   show (upI _ _ _ _).2.p ≤ _ ∧ _ ≤ (upI _ _ _ _).2.p ∧ (upI _ _ _ _).2.p ≤ _
   omega
theorem zY5 {bs:List zQ} {R:Rs} (h:R.p ≤ bs.length):∀ i,(nS bs R i).p ≤ bs.length ∧ R.p ≤ (nS bs R i).p ∧ (nS bs R i).p ≤ R.p + 10 * i
 | 0=>by simp [nS,h]
 | i + 1=>by
   have h1:=zY5 h i
   have h2:=zDJ h1.1
   show (zAA _ _).2.p ≤ _ ∧ _ ≤ (zAA _ _).2.p ∧ (zAA _ _).2.p ≤ _
   omega
theorem zZE {bs:List zQ} {m:BitVec 8} {R:Rs} (h:R.p ≤ bs.length):(upA bs m R).2.p ≤ bs.length ∧ R.p ≤ (upA bs m R).2.p:=by
 unfold upA
 have h1:=zA1 (X:=65535#64) h
 split
 · dsimp only
   split
   · have:=zBU (e:=7) h1.1;omega
   · omega
 · dsimp only;omega
section
variable {bs : List zQ} {m : BitVec 8} {R : Rs} {i : Nat}
end
theorem zKR {bs:List zQ} {k id:Int} {R:Rs} (h:R.p ≤ bs.length):(zA3 bs k id R).2.p ≤ bs.length ∧ R.p ≤ (zA3 bs k id R).2.p:=by
 have h1:=zD9 h
 have h2:=zKq (m:=(zH bs R).1) h1.1 6
 have h3:=zZE (m:=(zH bs R).1) h2.1
 have h4:=zBU (e:=7) h1.1
 unfold zA3
 dsimp only
 split <;> (dsimp only;omega)
theorem zJT {bs:List zQ} {k id:Int} {R:Rs} (h:R.p ≤ bs.length):(zCC bs k id R).2.p ≤ bs.length ∧ R.p ≤ (zCC bs k id R).2.p:=by
 have h2:=zY5 h 6
 have h3:=zA1 (X:=65535#64) h2.1
 unfold zCC
 dsimp only;omega
theorem zQZ {bs:List zQ} {k id:Int} {R:Rs} (h:R.p ≤ bs.length):(zA8 bs k id R).2.p ≤ bs.length ∧ R.p ≤ (zA8 bs k id R).2.p:=by
 unfold zA8
 split
 · exact zJT h
 · split
   · exact zKR h
   · split
     · dsimp only;omega
     · have:=zBU (e:=11) h;dsimp only;omega
theorem zM8 {bs:List zQ} {last:Int} {R:Rs} (h:R.p ≤ bs.length):(zAF bs last R).2.2.p ≤ bs.length ∧ R.p ≤ (zAF bs last R).2.2.p:=by
 have h1:(zQS bs last R).2.p ≤ bs.length ∧ R.p ≤ (zQS bs last R).2.p:=by
   have:=zA1 (X:=BitVec.ofInt 64 (65534 - last)) h
   unfold zQS
   omega
 have h2:=zD9 h1.1
 have h3:(zEJ bs last R).2.p ≤ bs.length ∧ (zH bs (zQS bs last R).2).2.p ≤ (zEJ bs last R).2.p:=zQZ h2.1
 have h4:=zBU (e:=10) h
 unfold zAF
 repeat' split
 all_goals (dsimp only;omega)
theorem zLp {α β:Type} {p x:α × β} (h:p = x):p = (x.1,x.2):=h
theorem zF6 (bs:List zQ) (last:Int) (R:Rs):zEJ bs last R = zA8 bs (((zH bs (zP bs (BitVec.ofInt 64 (65534 - last)) R).2).1.toNat:Nat):Int) (last + 1 + (((zP bs (BitVec.ofInt 64 (65534 - last)) R).1.toNat:Nat):Int)) (zH bs (zP bs (BitVec.ofInt 64 (65534 - last)) R).2).2:=rfl
theorem zGd {bs:List zQ} {k id:Int} {R:Rs} (h:k = 0 ∨ k = 3):zA8 bs k id R = zCC bs k id R:=by unfold zA8;rw [if_pos h]
theorem zHZ {bs:List zQ} {k id:Int} {R:Rs} (h:k = 1):zA8 bs k id R = zA3 bs k id R:=by unfold zA8;rw [if_neg (by omega),if_pos h]
theorem zHY {bs:List zQ} {k id:Int} {R:Rs} (h:k = 2):zA8 bs k id R = (⟨k,id,0,0,0,0,0,0,0#16⟩,R):=by unfold zA8;rw [if_neg (by omega),if_neg (by omega),if_pos h]
theorem zOZ {bs:List zQ} {k id:Int} {R:Rs} (h:¬ (k = 0 ∨ k = 1 ∨ k = 2 ∨ k = 3)):zA8 bs k id R = (⟨k,id,0,0,0,0,0,0,0#16⟩,zBh 11 R):=by unfold zA8;rw [if_neg (by omega),if_neg (by omega),if_neg (by omega)]
theorem zER {bs:List zQ} {last:Int} {R:Rs} (h:last < -1 ∨ 65535 < last):zAF bs last R = (zO5,3,R):=by unfold zAF;rw [if_pos h]
theorem zEd {bs:List zQ} {last:Int} {R:Rs} (h:last = 65535):zAF bs last R = (zO5,(zBh 10 R).e,zBh 10 R):=by unfold zAF;rw [if_neg (by omega),if_pos h]
theorem zDk {bs:List zQ} {last:Int} {R RR:Rs} {rr:zAC} (h:¬ (last < -1 ∨ 65535 < last)) (h2:last ≠ 65535) (hr:zEJ bs last R = (rr,RR)) (he:RR.e ≠ 0):zAF bs last R = (zO5,RR.e,RR):=by
 unfold zAF
 rw [if_neg h,if_neg h2,hr,if_pos he]
theorem zE1 {bs:List zQ} {last:Int} {R RR:Rs} {rr:zAC} (h:¬ (last < -1 ∨ 65535 < last)) (h2:last ≠ 65535) (hr:zEJ bs last R = (rr,RR)) (he:RR.e = 0):zAF bs last R = (rr,0,RR):=by
 unfold zAF
 rw [if_neg h,if_neg h2,hr,if_neg (by simpa using he)]
theorem zIy {bs:List zQ} {k id:Int} {R:Rs} (h:(zH bs R).1.toNat = 0 ∨ 127 < (zH bs R).1.toNat):zA3 bs k id R = (⟨k,id,0,0,0,0,0,0,0#16⟩,zBh 7 (zH bs R).2):=by
 unfold zA3
 dsimp only
 rw [if_pos h]
theorem zHd {bs:List zQ} {k id:Int} {R:Rs} {A:BitVec 16} {T:Rs} (h:¬ ((zH bs R).1.toNat = 0 ∨ 127 < (zH bs R).1.toNat)) (hA:upA bs (zH bs R).1 (upS bs (zH bs R).1 (zH bs R).2 6) = (A,T)):zA3 bs k id R = (⟨k,id,upX bs (zH bs R).1 (zH bs R).2 0,upX bs (zH bs R).1 (zH bs R).2 1,upX bs (zH bs R).1 (zH bs R).2 2,upX bs (zH bs R).1 (zH bs R).2 3,upX bs (zH bs R).1 (zH bs R).2 4,upX bs (zH bs R).1 (zH bs R).2 5,A⟩,T):=by
 unfold zA3
 dsimp only
 rw [if_neg h,hA]
theorem zSJ {bs:List zQ} {last:Int} {R:Rs} (h:R.p ≤ bs.length) (h1 : -1 ≤ last) (h2:last < 65535):(((zP bs (BitVec.ofInt 64 (65534 - last)) R).1.toNat:Nat):Int) ≤ 65534 - last:=by
 have h3:=(zA1 (X:=BitVec.ofInt 64 (65534 - last)) h).2.2.2.1
 have h4:=zD2 (x:=65534 - last) (by omega) (by omega)
 omega
theorem zTc {bs:List zQ} {last:Int} {R:Rs} (h:R.p ≤ bs.length) (h1 : -1 ≤ last) (h2:last < 65535):(zP bs (BitVec.ofInt 64 (65534 - last)) R).1.toInt = (((zP bs (BitVec.ofInt 64 (65534 - last)) R).1.toNat:Nat):Int):=by
 have:=zSJ h h1 h2
 by_cases h5:65534 - last ≤ 65535
 · exact zH8 (by omega)
 · exact zH8 (by omega)
end Go.Sx

set_option linter.unusedVariables false
set_option linter.unusedSimpArgs false
namespace Go.Sx
structure zZ where
 id:Int
 p0:Int
 p1:Int
 p2:Int
 v0:Int
 v1:Int
 v2:Int
 a:BitVec 16
 g:BitVec 8
instance : Inhabited zZ:=⟨⟨0,0,0,0,0,0,0,0#16,0#8⟩⟩
structure zZ.wf (r:zZ):Prop where
 id : -9223372036854775808 ≤ r.id ∧ r.id ≤ 9223372036854775807
 p0 : -9223372036854775808 ≤ r.p0 ∧ r.p0 ≤ 9223372036854775807
 p1 : -9223372036854775808 ≤ r.p1 ∧ r.p1 ≤ 9223372036854775807
 p2 : -9223372036854775808 ≤ r.p2 ∧ r.p2 ≤ 9223372036854775807
 v0 : -9223372036854775808 ≤ r.v0 ∧ r.v0 ≤ 9223372036854775807
 v1 : -9223372036854775808 ≤ r.v1 ∧ r.v1 ≤ 9223372036854775807
 v2 : -9223372036854775808 ≤ r.v2 ∧ r.v2 ≤ 9223372036854775807
def zBN (r:zZ):List Value:=[.int .i64 r.id,.int .i64 r.p0,.int .i64 r.p1,.int .i64 r.p2,.int .i64 r.v0,.int .i64 r.v1,.int .i64 r.v2,.int .u16 ((r.a.toNat:Nat):Int),.int .u8 ((r.g.toNat:Nat):Int)]
theorem zBt (r:zZ):(zBN r).length = 9:=rfl
def zC6 : zZ:=⟨0,0,0,0,0,0,0,0#16,0#8⟩
def zT (a:zZ) (r:zAC):zZ × Nat :=
 if zAf r ≠ 0 then (zC6,zAf r) else if r.id ≠ a.id ∨ r.k = 0 ∨ r.k = 2 then (zC6,15)
 else if r.k = 3 then (⟨a.id,r.p0,r.p1,r.p2,r.v0,r.v1,r.v2,r.a,a.g + 1#8⟩,0)
 else (⟨a.id,IntKind.i64.wrap (a.p0 + r.p0),IntKind.i64.wrap (a.p1 + r.p1),IntKind.i64.wrap (a.p2 + r.p2),IntKind.i64.wrap (a.v0 + r.v0),IntKind.i64.wrap (a.v1 + r.v1),IntKind.i64.wrap (a.v2 + r.v2),a.a + r.a,a.g⟩,0)
theorem zEy (x:Int) : -9223372036854775808 ≤ IntKind.i64.wrap x ∧ IntKind.i64.wrap x ≤ 9223372036854775807:=by
 simp only [IntKind.wrap_i64]
 omega
theorem zB7 {a:zZ} {r:zAC} (h:zAf r ≠ 0):zT a r = (zC6,zAf r):=by unfold zT;rw [if_pos h]
theorem zCT {a:zZ} {r:zAC} (h:zAf r = 0) (h2:r.id ≠ a.id ∨ r.k = 0 ∨ r.k = 2):zT a r = (zC6,15):=by unfold zT;rw [if_neg (by omega),if_pos h2]
theorem zBk {a:zZ} {r:zAC} (h:zAf r = 0) (h2:¬ (r.id ≠ a.id ∨ r.k = 0 ∨ r.k = 2)) (h3:r.k = 3):zT a r = (⟨a.id,r.p0,r.p1,r.p2,r.v0,r.v1,r.v2,r.a,a.g + 1#8⟩,0):=by
 unfold zT
 rw [if_neg (by omega),if_neg h2,if_pos h3]
theorem zBn {a:zZ} {r:zAC} (h:zAf r = 0) (h2:¬ (r.id ≠ a.id ∨ r.k = 0 ∨ r.k = 2)) (h3:r.k ≠ 3):zT a r = (⟨a.id,IntKind.i64.wrap (a.p0 + r.p0),IntKind.i64.wrap (a.p1 + r.p1),IntKind.i64.wrap (a.p2 + r.p2),IntKind.i64.wrap (a.v0 + r.v0),IntKind.i64.wrap (a.v1 + r.v1),IntKind.i64.wrap (a.v2 + r.v2),a.a + r.a,a.g⟩,0):=by
 unfold zT
 rw [if_neg (by omega),if_neg h2,if_neg h3]
end Go.Sx

set_option linter.unusedVariables false
set_option linter.unusedSimpArgs false
namespace Go.Sx
structure zbO where
 k:Int
 m:BitVec 64
 e:BitVec 8
instance : Inhabited zbO:=⟨⟨0,0#64,0#8⟩⟩
theorem zAN {α:Type} {g:α → List Value} {size:Nat} (hg:∀ a,(g a).length = size):∀ (l:List α),(l.flatMap g).length = l.length * size
 | []=>by simp
 | a :: l=>by rw [List.flatMap_cons,List.length_append,hg,zAN hg l,List.length_cons,Nat.add_mul];omega
theorem zAT {α:Type} [Inhabited α] {g:α → List Value} {size:Nat} (hg:∀ a,(g a).length = size):∀ (l:List α) (j:Nat),j < l.length → ((l.flatMap g).drop (j * size)).take size = g (l.getD j default)
 | [],j,h=>by simp at h
 | a :: l,0,_=>by
   simp only [Nat.zero_mul,List.drop_zero,List.flatMap_cons,List.getD_cons_zero]
   rw [← hg a,List.take_left']
   rfl
 | a :: l,j + 1,h=>by
   have ih:=zAT hg l j (by simpa using h)
   rw [List.flatMap_cons,show (j + 1) * size = (g a).length + j * size by rw [hg,Nat.add_mul];omega,← List.drop_drop,List.drop_left',List.getD_cons_succ]
   · exact ih
   · rfl
theorem zCK {α:Type} [Inhabited α] {g:α → List Value} {size:Nat} (hg:∀ a,(g a).length = size) (l:List α) (j o:Nat) (h:j < l.length) (ho:o < size):(l.flatMap g)[j * size + o]? = (g (l.getD j default))[o]?:=by
 rw [← zAT hg l j h,List.getElem?_take,if_pos ho,List.getElem?_drop]
def Tr (bs:List zQ) (u:Value) (p:Nat) (u':Value) (p':Nat):Prop:=∀ w' T,Rd w' T u 1 (bs.length - p) (zC (bs.drop p)) → Rd w' T u' 1 (bs.length - p') (zC (bs.drop p'))
theorem Tr.refl {bs:List zQ} {u:Value} {p:Nat}:Tr bs u p u p:=fun _ _ h=>h
theorem Tr.trans {bs:List zQ} {u u2 u3:Value} {p p2 p3:Nat} (h:Tr bs u p u2 p2) (h2:Tr bs u2 p2 u3 p3):Tr bs u p u3 p3:=fun w T h0=>h2 w T (h w T h0)
theorem zPE {b:List zQ} (h:b.length = 0):(zCN b).2.2 = 5:=by rw [zCE h]
theorem zWq {bs:List zQ} {k:Nat} (h:(zCN (bs.drop k)).2.2 ≠ 5):¬ bs.length ≤ k:=fun h2=>h (zPE (by simp only [List.length_drop];omega))
theorem zOY {bs:List zQ} {X:BitVec 64} {R:Rs} (h:R.e = 0) (h1:(zCN (bs.drop R.p)).2.2 = 0) (h2:(zCN (bs.drop R.p)).1.toNat ≤ X.toNat):zP bs X R = ((zCN (bs.drop R.p)).1,⟨R.p + (zCN (bs.drop R.p)).2.1,0⟩):=by
 have hu:zIX (bs.drop R.p) X = 0:=by unfold zIX;rw [if_neg (fun h=>by omega)];exact h1
 exact zC8 h (zWq (by omega)) hu
theorem zMs {bs:List zQ} {R:Rs} (h:R.p ≤ bs.length):(zAA bs (zAA bs (zAA bs R).2).2).2.p ≤ bs.length ∧ R.p ≤ (zAA bs (zAA bs (zAA bs R).2).2).2.p ∧ (zAA bs (zAA bs (zAA bs R).2).2).2.p ≤ R.p + 30:=zWx h
end Go.Sx

set_option linter.unusedVariables false
set_option linter.unusedSimpArgs false
namespace Go.Sx
structure zDE {α:Type} (bs:List zQ) (c:List zQ) (f:Rs → α × Rs) (v:α):Prop where
 stay:∀ R,R.e = 6 → (f R).2.e = 6
 good:∀ R n rest,R.e = 0 → R.p ≤ bs.length → bs.drop R.p = (c ++ rest).take n → c.length ≤ n → f R = (v,⟨R.p + c.length,0⟩)
 short:∀ R n rest,R.e = 0 → R.p ≤ bs.length → bs.drop R.p = (c ++ rest).take n → n < c.length → (f R).2.e = 6
theorem zMa {bs c rest:List zQ} {p n:Nat} (h:bs.drop p = (c ++ rest).take n) (hn:c.length ≤ n) (hp:p ≤ bs.length):bs.drop (p + c.length) = rest.take (n - c.length) ∧ p + c.length ≤ bs.length:=by
 have h1:bs.drop (p + c.length) = (bs.drop p).drop c.length:=by rw [List.drop_drop]
 have h2:=congrArg List.length h
 simp only [List.length_drop,List.length_take,List.length_append] at h2
 refine ⟨?_,by omega⟩
 rw [h1,h,List.take_append,List.drop_append_of_le_length (by rw [List.length_take];omega),List.take_of_length_le hn,List.drop_length,List.nil_append]
theorem zDE.bind {α β:Type} {bs c d:List zQ} {f:Rs → α × Rs} {g:α → Rs → β × Rs} {v:α} {u:β} (hf:zDE bs c f v) (hs:∀ x R,R.e = 6 → (g x R).2.e = 6) (hg:zDE bs d (g v) u):zDE bs (c ++ d) (fun R=>g (f R).1 (f R).2) u:=by
 refine ⟨fun R h=>hs _ _ (hf.stay R h),fun R n rest h0 hp hd hn=>?_,fun R n rest h0 hp hd hn=>?_⟩
 · rw [List.append_assoc] at hd
   rw [List.length_append] at hn
   have h1:=hf.good R n _ h0 hp hd (by omega)
   obtain ⟨h2,h3⟩:=zMa hd (by omega) hp
   rw [h1]
   dsimp only
   rw [hg.good ⟨R.p + c.length,0⟩ (n - c.length) rest rfl h3 h2 (by omega),List.length_append]
   dsimp only
   rw [Nat.add_assoc]
 · rw [List.append_assoc] at hd
   rw [List.length_append] at hn
   by_cases hc:c.length ≤ n
   · have h1:=hf.good R n _ h0 hp hd hc
     obtain ⟨h2,h3⟩:=zMa hd hc hp
     rw [h1]
     exact hg.short ⟨R.p + c.length,0⟩ (n - c.length) rest rfl h3 h2 (by omega)
   · exact hs _ _ (hf.short R n _ h0 hp hd (by omega))
theorem zDE.pure {α:Type} {bs:List zQ} (v:α):zDE bs [] (fun R=>(v,R)) v:=by
 refine ⟨fun R h=>h,fun R n rest h0 hp hd hn=>?_,fun R n rest h0 hp hd hn=>?_⟩
 · cases R;simp at h0;subst h0;rfl
 · simp at hn
theorem zCS {bs:List zQ} {X L:BitVec 64} (h:X.toNat ≤ L.toNat):zDE bs (zCP X.toNat) (zP bs L) X:=by
 have hvp:=zC2 X.toNat
 have hl:(zCP X.toNat).length = zBW X.toNat:=rfl
 refine ⟨fun R h=>by rw [zCg (by omega)];exact h,fun R n rest h0 hp hd hn=>?_,fun R n rest h0 hp hd hn=>?_⟩
 · have hd2:bs.drop R.p = zCP X.toNat ++ rest.take (n - (zCP X.toNat).length):=by rw [hd,List.take_append,List.take_of_length_le hn]
   have hg:=zUS X (rest.take (n - (zCP X.toNat).length))
   rw [← hd2] at hg
   rw [zOY h0 (by rw [hg]) (by rw [hg];exact h),hg]
   rfl
 · have hd2:bs.drop R.p = (zCP X.toNat).take n:=by rw [hd,List.take_append,show n - (zCP X.toNat).length = 0 by omega];simp
   by_cases h1:bs.length ≤ R.p
   · rw [zCV h0 h1]
   · have hn0 : 1 ≤ n := by
       have:=congrArg List.length hd2
       simp only [List.length_drop,List.length_take] at this
       omega
     have hg:=zPM X n hn0 (by omega)
     rw [← hd2] at hg
     have hu:zIX (bs.drop R.p) L = 6:=by unfold zIX;rw [hg];simp
     rw [zDm h0 h1 (by omega),hu]
theorem zGe {bs:List zQ} {c:zQ}:zDE bs [c] (zH bs) c:=by
 refine ⟨fun R h=>by rw [zDo (by omega)];exact h,fun R n rest h0 hp hd hn=>?_,fun R n rest h0 hp hd hn=>?_⟩
 · have hd2 : bs.drop R.p = c :: rest.take (n - 1) := by
     rw [hd]
     simp only [List.length_singleton] at hn
     rw [show n = (n - 1) + 1 by omega]
     simp
   have hl:=congrArg List.length hd2
   simp only [List.length_drop,List.length_cons] at hl
   have hg:bs.getD R.p 0 = c:=by
     have:=congrArg (fun l:List zQ=>l.getD 0 0) hd2
     simpa [List.getD_eq_getElem?_getD] using this
   rw [zDn h0 (by omega),hg]
   rfl
 · simp only [List.length_singleton] at hn
   have hn0:n = 0:=by omega
   subst hn0
   have hl:=congrArg List.length hd
   simp at hl
   rw [zDD h0 (by omega)]
theorem zCf {bs:List zQ} {x:Int} (h : -9223372036854775808 ≤ x ∧ x ≤ 9223372036854775807):zDE bs (zDS x) (zAA bs) x:=by
 have ht:=zCS (bs:=bs) (X:=zGC x) (L:=18446744073709551615#64) (by have:=(zGC x).isLt;have h2:(18446744073709551615#64).toNat = 18446744073709551615:=rfl;omega)
 refine ⟨fun R h=>ht.stay R h,fun R n rest h0 hp hd hn=>?_,fun R n rest h0 hp hd hn=>ht.short R n rest h0 hp hd hn⟩
 have:=ht.good R n rest h0 hp hd hn
 unfold zAA
 rw [this,zWR x h]
 rfl
theorem zDq {e:Nat} {R:Rs} (h:R.e = 6):(zBh e R).e = 6:=by unfold zBh;rw [if_neg (by omega)];exact h
theorem zBp {bs:List zQ} {m:BitVec 8} {i:Nat} {R:Rs} (h:R.e = 6):(upI bs m i R).2.e = 6:=by
 have h1:=(zLL (bs:=bs) (R:=R) (by omega)).2.1
 unfold upI
 split
 · dsimp only
   split
   · exact zDq (by omega)
   · omega
 · exact h
theorem zEZ {bs:List zQ} {m:BitVec 8} {R:Rs} (h:R.e = 6):(upA bs m R).2.e = 6:=by
 have h1:=(zIi (bs:=bs) (X:=65535#64) (R:=R) (by omega)).2.1
 unfold upA
 split
 · dsimp only
   split
   · exact zDq (by omega)
   · omega
 · exact h
def upC (r:zAC) (i:Nat):List zQ:=if r.num i = 0 then [] else zDS (r.num i)
theorem zUW {bs:List zQ} {m:BitVec 8} {r:zAC} {i:Nat} (hm:zBq m i = true ↔ r.num i ≠ 0) (h : -9223372036854775808 ≤ r.num i ∧ r.num i ≤ 9223372036854775807):zDE bs (upC r i) (upI bs m i) (r.num i):=by
 by_cases h0:r.num i = 0
 · have hb : zBq m i = false := by
     cases hb:zBq m i with
     | false=>rfl
     | true=>exact absurd h0 (hm.1 hb)
   have:upI bs m i = fun R=>(0,R):=by
     funext R
     unfold upI
     rw [if_neg (by rw [hb];decide)]
   rw [this,upC,if_pos h0,h0]
   exact zDE.pure 0
 · have hb:=hm.2 h0
   have ht:=zCf (bs:=bs) h
   rw [upC,if_neg h0]
   refine ⟨fun R h=>zBp h,fun R n rest h1 hp hd hn=>?_,fun R n rest h1 hp hd hn=>?_⟩
   · have:=ht.good R n rest h1 hp hd hn
     unfold upI
     rw [if_pos hb,this]
     dsimp only
     rw [if_neg h0]
   · have:=ht.short R n rest h1 hp hd hn
     unfold upI
     rw [if_pos hb]
     dsimp only
     split
     · exact zDq this
     · exact this
theorem zW4 {bs:List zQ} {a:BitVec 16}:zDE bs (zCP a.toNat) (fun R=>((zP bs 65535#64 R).1.setWidth 16,(zP bs 65535#64 R).2)) a:=by
 have ht:=zCS (bs:=bs) (X:=a.setWidth 64) (L:=65535#64) (by rw [zUD];have:=a.isLt;have h2:(65535#64).toNat = 65535:=rfl;omega)
 rw [zUD] at ht
 refine ⟨fun R h=>ht.stay R h,fun R n rest h0 hp hd hn=>?_,fun R n rest h0 hp hd hn=>ht.short R n rest h0 hp hd hn⟩
 have:=ht.good R n rest h0 hp hd hn
 rw [this]
 dsimp only
 congr 1
 apply BitVec.eq_of_toNat_eq
 simp
theorem zPP {bs:List zQ} {m:BitVec 8} {a:BitVec 16} (hm:zBq m 6 = true ↔ a ≠ 0#16):zDE bs (if a = 0#16 then [] else zCP a.toNat) (upA bs m) a:=by
 by_cases h0:a = 0#16
 · have hb : zBq m 6 = false := by
     cases hb:zBq m 6 with
     | false=>rfl
     | true=>exact absurd h0 (hm.1 hb)
   have:upA bs m = fun R=>(0#16,R):=by
     funext R
     unfold upA
     rw [if_neg (by rw [hb];decide)]
   rw [this,if_pos h0,h0]
   exact zDE.pure _
 · have hb:=hm.2 h0
   rw [if_neg h0]
   have ht:=zCS (bs:=bs) (X:=a.setWidth 64) (L:=65535#64) (by rw [zUD];have:=a.isLt;have h2:(65535#64).toNat = 65535:=rfl;omega)
   rw [zUD] at ht
   have hne:a.setWidth 64 ≠ 0#64:=fun e=>h0 (BitVec.eq_of_toNat_eq (by rw [← zUD a,e];rfl))
   refine ⟨fun R h=>zEZ h,fun R n rest h1 hp hd hn=>?_,fun R n rest h1 hp hd hn=>?_⟩
   · have:=ht.good R n rest h1 hp hd hn
     unfold upA
     rw [if_pos hb,this]
     dsimp only
     rw [if_neg hne]
     congr 1
     apply BitVec.eq_of_toNat_eq
     simp
   · have:=ht.short R n rest h1 hp hd hn
     unfold upA
     rw [if_pos hb]
     dsimp only
     split
     · exact zDq this
     · exact this
/-! ### The mask -/
def zEX (b0 b1 b2 b3 b4 b5 b6:Bool):BitVec 8 :=
 let m0:=bif b0 then 0#8 ||| (1#8 <<< 0) else 0#8
 let m1:=bif b1 then m0 ||| (1#8 <<< 1) else m0
 let m2:=bif b2 then m1 ||| (1#8 <<< 2) else m1
 let m3:=bif b3 then m2 ||| (1#8 <<< 3) else m2
 let m4:=bif b4 then m3 ||| (1#8 <<< 4) else m3
 let m5:=bif b5 then m4 ||| (1#8 <<< 5) else m4
 bif b6 then m5 ||| 64#8 else m5
theorem zYP {α:Type} {p:Prop} [Decidable p] (x y:α):(if p then x else y) = bif decide (¬ p) then y else x:=by by_cases h:p <;> simp [h]
theorem zYS (r:zAC):zCX r = zEX (decide (r.p0 ≠ 0)) (decide (r.p1 ≠ 0)) (decide (r.p2 ≠ 0)) (decide (r.v0 ≠ 0)) (decide (r.v1 ≠ 0)) (decide (r.v2 ≠ 0)) (decide (r.a ≠ 0#16)):=by
 simp only [zCX,zAu,zAC.num,zEX,zYP]
theorem zLy : ∀ b0 b1 b2 b3 b4 b5 b6:Bool,zBq (zEX b0 b1 b2 b3 b4 b5 b6) 0 = b0 ∧ zBq (zEX b0 b1 b2 b3 b4 b5 b6) 1 = b1 ∧ zBq (zEX b0 b1 b2 b3 b4 b5 b6) 2 = b2 ∧ zBq (zEX b0 b1 b2 b3 b4 b5 b6) 3 = b3 ∧ zBq (zEX b0 b1 b2 b3 b4 b5 b6) 4 = b4 ∧ zBq (zEX b0 b1 b2 b3 b4 b5 b6) 5 = b5 ∧ zBq (zEX b0 b1 b2 b3 b4 b5 b6) 6 = b6 ∧ (zEX b0 b1 b2 b3 b4 b5 b6).toNat ≤ 127 ∧ ((zEX b0 b1 b2 b3 b4 b5 b6).toNat = 0 → b0 = false ∧ b1 = false ∧ b2 = false ∧ b3 = false ∧ b4 = false ∧ b5 = false ∧ b6 = false):=by
 intro b0 b1 b2 b3 b4 b5 b6
 cases b0 <;> cases b1 <;> cases b2 <;> cases b3 <;> cases b4 <;> cases b5 <;> cases b6 <;> exact ⟨by decide,by decide,by decide,by decide,by decide,by decide,by decide,by decide,by decide⟩
theorem zRv (r:zAC):(∀ i,i < 6 → (zBq (zCX r) i = true ↔ r.num i ≠ 0)) ∧ (zBq (zCX r) 6 = true ↔ r.a ≠ 0#16) ∧ (zCX r).toNat ≤ 127 ∧ ((zCX r).toNat = 0 → zBI r = true):=by
 have h:=zLy (decide (r.p0 ≠ 0)) (decide (r.p1 ≠ 0)) (decide (r.p2 ≠ 0)) (decide (r.v0 ≠ 0)) (decide (r.v1 ≠ 0)) (decide (r.v2 ≠ 0)) (decide (r.a ≠ 0#16))
 rw [← zYS] at h
 obtain ⟨h0,h1,h2,h3,h4,h5,h6,h7,h8⟩:=h
 refine ⟨fun i hi=>?_,by rw [h6,decide_eq_true_iff],h7,fun hz=>?_⟩
 · match i,hi with
   | 0,_=>rw [h0,decide_eq_true_iff];rfl
   | 1,_=>rw [h1,decide_eq_true_iff];rfl
   | 2,_=>rw [h2,decide_eq_true_iff];rfl
   | 3,_=>rw [h3,decide_eq_true_iff];rfl
   | 4,_=>rw [h4,decide_eq_true_iff];rfl
   | 5,_=>rw [h5,decide_eq_true_iff];rfl
 · obtain ⟨e0,e1,e2,e3,e4,e5,e6⟩:=h8 hz
   simp only [decide_eq_false_iff_not,ne_eq,Decidable.not_not] at e0 e1 e2 e3 e4 e5 e6
   simp [zBI,e0,e1,e2,e3,e4,e5,e6]
/-! ### The bodies -/
theorem zAC.wf.num {r:zAC} (h:r.wf) (i:Nat) : -9223372036854775808 ≤ r.num i ∧ r.num i ≤ 9223372036854775807:=by
 match i with
 | 0=>exact h.p0
 | 1=>exact h.p1
 | 2=>exact h.p2
 | 3=>exact h.v0
 | 4=>exact h.v1
 | _ + 5=>exact h.v2
theorem zAp {bs:List zQ} {R:Rs} (h:R.e = 6):(zAA bs R).2.e = 6:=by have:=(zLL (bs:=bs) (R:=R) (by omega)).2.1;omega
theorem zDG {bs:List zQ} {X:BitVec 64} {R:Rs} (h:R.e = 6):(zP bs X R).2.e = 6:=by have:=(zIi (bs:=bs) (X:=X) (R:=R) (by omega)).2.1;omega
theorem zLE {bs:List zQ} {R:Rs} (h:R.e = 6):(zH bs R).2.e = 6:=by have:=(zOr (bs:=bs) (R:=R) (by omega)).2.1;omega
theorem zR5 {bs:List zQ} {r:zAC} (hw:r.wf):zDE bs (zBZ r) (zCC bs r.k r.id) r:=by
 have h6:=(zW4 (bs:=bs) (a:=r.a)).bind (g:=fun x R=>((⟨r.k,r.id,r.p0,r.p1,r.p2,r.v0,r.v1,r.v2,x⟩ : zAC),R)) (fun x R h=>h) (zDE.pure _)
 have h5:=(zCf (bs:=bs) hw.v2).bind (g:=fun x R=>((⟨r.k,r.id,r.p0,r.p1,r.p2,r.v0,r.v1,x,(zP bs 65535#64 R).1.setWidth 16⟩ : zAC),(zP bs 65535#64 R).2)) (fun x R h=>zDG h) h6
 have h4:=(zCf (bs:=bs) hw.v1).bind (g:=fun x R=>((⟨r.k,r.id,r.p0,r.p1,r.p2,r.v0,x,(zAA bs R).1,(zP bs 65535#64 (zAA bs R).2).1.setWidth 16⟩ : zAC),(zP bs 65535#64 (zAA bs R).2).2)) (fun x R h=>zDG (zAp h)) h5
 have h3:=(zCf (bs:=bs) hw.v0).bind (g:=fun x R=>((⟨r.k,r.id,r.p0,r.p1,r.p2,x,(zAA bs R).1,(zAA bs (zAA bs R).2).1,(zP bs 65535#64 (zAA bs (zAA bs R).2).2).1.setWidth 16⟩ : zAC),(zP bs 65535#64 (zAA bs (zAA bs R).2).2).2)) (fun x R h=>zDG (zAp (zAp h))) h4
 have h2:=(zCf (bs:=bs) hw.p2).bind (g:=fun x R=>((⟨r.k,r.id,r.p0,r.p1,x,(zAA bs R).1,(zAA bs (zAA bs R).2).1,(zAA bs (zAA bs (zAA bs R).2).2).1,(zP bs 65535#64 (zAA bs (zAA bs (zAA bs R).2).2).2).1.setWidth 16⟩ : zAC),(zP bs 65535#64 (zAA bs (zAA bs (zAA bs R).2).2).2).2)) (fun x R h=>zDG (zAp (zAp (zAp h)))) h3
 have h1:=(zCf (bs:=bs) hw.p1).bind (g:=fun x R=>((⟨r.k,r.id,r.p0,x,(zAA bs R).1,(zAA bs (zAA bs R).2).1,(zAA bs (zAA bs (zAA bs R).2).2).1,(zAA bs (zAA bs (zAA bs (zAA bs R).2).2).2).1,(zP bs 65535#64 (zAA bs (zAA bs (zAA bs (zAA bs R).2).2).2).2).1.setWidth 16⟩ : zAC),(zP bs 65535#64 (zAA bs (zAA bs (zAA bs (zAA bs R).2).2).2).2).2)) (fun x R h=>zDG (zAp (zAp (zAp (zAp h))))) h2
 have h0:=(zCf (bs:=bs) hw.p0).bind (g:=fun x R=>((⟨r.k,r.id,x,(zAA bs R).1,(zAA bs (zAA bs R).2).1,(zAA bs (zAA bs (zAA bs R).2).2).1,(zAA bs (zAA bs (zAA bs (zAA bs R).2).2).2).1,(zAA bs (zAA bs (zAA bs (zAA bs (zAA bs R).2).2).2).2).1,(zP bs 65535#64 (zAA bs (zAA bs (zAA bs (zAA bs (zAA bs R).2).2).2).2).2).1.setWidth 16⟩ : zAC),(zP bs 65535#64 (zAA bs (zAA bs (zAA bs (zAA bs (zAA bs R).2).2).2).2).2).2)) (fun x R h=>zDG (zAp (zAp (zAp (zAp (zAp h)))))) h1
 have e:zCC bs r.k r.id = fun R=>((⟨r.k,r.id,(zAA bs R).1,(zAA bs (zAA bs R).2).1,(zAA bs (zAA bs (zAA bs R).2).2).1,(zAA bs (zAA bs (zAA bs (zAA bs R).2).2).2).1,(zAA bs (zAA bs (zAA bs (zAA bs (zAA bs R).2).2).2).2).1,(zAA bs (zAA bs (zAA bs (zAA bs (zAA bs (zAA bs R).2).2).2).2).2).1,(zP bs 65535#64 (zAA bs (zAA bs (zAA bs (zAA bs (zAA bs (zAA bs R).2).2).2).2).2).2).1.setWidth 16⟩ : zAC),(zP bs 65535#64 (zAA bs (zAA bs (zAA bs (zAA bs (zAA bs (zAA bs R).2).2).2).2).2).2).2):=by
   funext R
   simp only [zCC,nX,nS]
 rw [e]
 simpa [zBZ,List.append_assoc] using h0
end Go.Sx

set_option linter.unusedVariables false
set_option linter.unusedSimpArgs false
namespace Go.Sx
theorem zQt {bs:List zQ} {m:BitVec 8} {R:Rs} (h:R.e = 6):∀ i,(upS bs m R i).e = 6
 | 0=>h
 | i + 1=>zBp (zQt h i)
def zMc (bs:List zQ) (k id:Int) (m:BitVec 8) (R:Rs):zAC × Rs :=
 if m.toNat = 0 ∨ 127 < m.toNat then (⟨k,id,0,0,0,0,0,0,0#16⟩,zBh 7 R)
 else (⟨k,id,upX bs m R 0,upX bs m R 1,upX bs m R 2,upX bs m R 3,upX bs m R 4,upX bs m R 5,(upA bs m (upS bs m R 6)).1⟩,(upA bs m (upS bs m R 6)).2)
theorem zJA (bs:List zQ) (k id:Int):zA3 bs k id = fun R=>zMc bs k id (zH bs R).1 (zH bs R).2:=by
 funext R
 unfold zA3 zMc
 rfl
theorem zKu {bs:List zQ} {k id:Int} {m:BitVec 8} {R:Rs} (h:R.e = 6):(zMc bs k id m R).2.e = 6:=by
 unfold zMc
 split
 · exact zDq h
 · exact zEZ (zQt h 6)
theorem zJZ (r:zAC):zAc r 6 = upC r 0 ++ (upC r 1 ++ (upC r 2 ++ (upC r 3 ++ (upC r 4 ++ upC r 5)))):=by
 have h:∀ i,zAc r (i + 1) = zAc r i ++ upC r i:=fun i=>by
   show (if r.num i = 0 then _ else _) = _
   unfold upC
   split <;> simp
 rw [h 5,h 4,h 3,h 2,h 1,h 0]
 simp [zAc]
def upW (r:zAC):List zQ:=if r.a = 0#16 then [] else zCP r.a.toNat
theorem zOE (r:zAC):zBK r = [zCX r] ++ (upC r 0 ++ (upC r 1 ++ (upC r 2 ++ (upC r 3 ++ (upC r 4 ++ (upC r 5 ++ upW r)))))):=by
 unfold zBK zGQ upW
 rw [zJZ]
 split <;> simp
theorem zOa {bs:List zQ} {r:zAC} (hw:r.wf) (hne:zBI r = false):zDE bs (zBK r) (zA3 bs r.k r.id) r:=by
 obtain ⟨hb,h6,h7,h8⟩:=zRv r
 have hm0:¬ ((zCX r).toNat = 0 ∨ 127 < (zCX r).toNat):=by
   rintro (h | h)
   · rw [h8 h] at hne;cases hne
   · omega
 rw [zOE,zJA]
 refine zGe.bind (g:=fun m R=>zMc bs r.k r.id m R) (fun x R h=>zKu h) ?_
 generalize hM:zCX r = m at *
 have e:(fun R=>zMc bs r.k r.id m R) = fun R=>(⟨r.k,r.id,(upI bs m 0 R).1,(upI bs m 1 (upI bs m 0 R).2).1,(upI bs m 2 (upI bs m 1 (upI bs m 0 R).2).2).1,(upI bs m 3 (upI bs m 2 (upI bs m 1 (upI bs m 0 R).2).2).2).1,(upI bs m 4 (upI bs m 3 (upI bs m 2 (upI bs m 1 (upI bs m 0 R).2).2).2).2).1,(upI bs m 5 (upI bs m 4 (upI bs m 3 (upI bs m 2 (upI bs m 1 (upI bs m 0 R).2).2).2).2).2).1,(upA bs m (upI bs m 5 (upI bs m 4 (upI bs m 3 (upI bs m 2 (upI bs m 1 (upI bs m 0 R).2).2).2).2).2).2).1⟩,(upA bs m (upI bs m 5 (upI bs m 4 (upI bs m 3 (upI bs m 2 (upI bs m 1 (upI bs m 0 R).2).2).2).2).2).2).2):=by
   funext R
   unfold zMc
   rw [if_neg hm0]
   rfl
 rw [e]
 have hn:=fun i hi=>zUW (bs:=bs) (hb i hi) (hw.num i)
 have q6:=(zPP (bs:=bs) h6).bind (g:=fun x R=>((⟨r.k,r.id,r.p0,r.p1,r.p2,r.v0,r.v1,r.v2,x⟩ : zAC),R)) (fun x R h=>h) (zDE.pure _)
 have q5:=(hn 5 (by omega)).bind (g:=fun x R=>((⟨r.k,r.id,r.p0,r.p1,r.p2,r.v0,r.v1,x,(upA bs m R).1⟩ : zAC),(upA bs m R).2)) (fun x R h=>zEZ h) q6
 have q4:=(hn 4 (by omega)).bind (g:=fun x R=>((⟨r.k,r.id,r.p0,r.p1,r.p2,r.v0,x,(upI bs m 5 R).1,(upA bs m (upI bs m 5 R).2).1⟩ : zAC),(upA bs m (upI bs m 5 R).2).2)) (fun x R h=>zEZ (zBp h)) q5
 have q3:=(hn 3 (by omega)).bind (g:=fun x R=>((⟨r.k,r.id,r.p0,r.p1,r.p2,x,(upI bs m 4 R).1,(upI bs m 5 (upI bs m 4 R).2).1,(upA bs m (upI bs m 5 (upI bs m 4 R).2).2).1⟩ : zAC),(upA bs m (upI bs m 5 (upI bs m 4 R).2).2).2)) (fun x R h=>zEZ (zBp (zBp h))) q4
 have q2:=(hn 2 (by omega)).bind (g:=fun x R=>((⟨r.k,r.id,r.p0,r.p1,x,(upI bs m 3 R).1,(upI bs m 4 (upI bs m 3 R).2).1,(upI bs m 5 (upI bs m 4 (upI bs m 3 R).2).2).1,(upA bs m (upI bs m 5 (upI bs m 4 (upI bs m 3 R).2).2).2).1⟩ : zAC),(upA bs m (upI bs m 5 (upI bs m 4 (upI bs m 3 R).2).2).2).2)) (fun x R h=>zEZ (zBp (zBp (zBp h)))) q3
 have q1:=(hn 1 (by omega)).bind (g:=fun x R=>((⟨r.k,r.id,r.p0,x,(upI bs m 2 R).1,(upI bs m 3 (upI bs m 2 R).2).1,(upI bs m 4 (upI bs m 3 (upI bs m 2 R).2).2).1,(upI bs m 5 (upI bs m 4 (upI bs m 3 (upI bs m 2 R).2).2).2).1,(upA bs m (upI bs m 5 (upI bs m 4 (upI bs m 3 (upI bs m 2 R).2).2).2).2).1⟩ : zAC),(upA bs m (upI bs m 5 (upI bs m 4 (upI bs m 3 (upI bs m 2 R).2).2).2).2).2)) (fun x R h=>zEZ (zBp (zBp (zBp (zBp h))))) q2
 have q0:=(hn 0 (by omega)).bind (g:=fun x R=>((⟨r.k,r.id,x,(upI bs m 1 R).1,(upI bs m 2 (upI bs m 1 R).2).1,(upI bs m 3 (upI bs m 2 (upI bs m 1 R).2).2).1,(upI bs m 4 (upI bs m 3 (upI bs m 2 (upI bs m 1 R).2).2).2).1,(upI bs m 5 (upI bs m 4 (upI bs m 3 (upI bs m 2 (upI bs m 1 R).2).2).2).2).1,(upA bs m (upI bs m 5 (upI bs m 4 (upI bs m 3 (upI bs m 2 (upI bs m 1 R).2).2).2).2).2).1⟩ : zAC),(upA bs m (upI bs m 5 (upI bs m 4 (upI bs m 3 (upI bs m 2 (upI bs m 1 R).2).2).2).2).2).2)) (fun x R h=>zEZ (zBp (zBp (zBp (zBp (zBp h)))))) q1
 simpa [upW,zAC.num] using q0
theorem zOq {r:zAC} (h:zBI r = true):r = ⟨r.k,r.id,0,0,0,0,0,0,0#16⟩:=by
 simp only [zBI,Bool.and_eq_true,beq_iff_eq] at h
 obtain ⟨⟨⟨⟨⟨⟨e0,e1⟩,e2⟩,e3⟩,e4⟩,e5⟩,e6⟩:=h
 have e6':=zQD e6
 cases r
 simp_all
theorem zEY {r:zAC} (h:zAf r = 0):0 ≤ r.k ∧ r.k ≤ 3 ∧ 0 ≤ r.id ∧ r.id ≤ 65535 ∧ (r.k = 1 → zBI r = false) ∧ (r.k = 2 → zBI r = true):=by
 unfold zAf at h
 split at h
 · cases h
 · split at h
   · cases h
   · split at h
     · cases h
     · rename_i h1 h2 h3
       refine ⟨by omega,by omega,by omega,by omega,fun hk=>?_,fun hk=>?_⟩
       · cases he:zBI r with
         | false=>rfl
         | true=>exact absurd (.inl ⟨hk,he⟩) h3
       · cases he:zBI r with
         | true=>rfl
         | false=>exact absurd (.inr ⟨hk,he⟩) h3
theorem zQn {bs:List zQ} {k id:Int} {R:Rs} (h:R.e = 6):(zCC bs k id R).2.e = 6:=by
 simp only [zCC,nS]
 exact zDG (zAp (zAp (zAp (zAp (zAp (zAp h))))))
theorem zIj {bs:List zQ} {k id:Int} {R:Rs} (h:R.e = 6):(zA8 bs k id R).2.e = 6:=by
 unfold zA8
 split
 · exact zQn h
 · split
   · rw [zJA];exact zKu (zLE h)
   · split
     · exact h
     · exact zDq h
theorem zOG {bs:List zQ} {r:zAC} (hw:r.wf) (hc:zAf r = 0):zDE bs (zD7 r) (zA8 bs r.k r.id) r:=by
 obtain ⟨h1,h2,h3,h4,h5,h6⟩:=zEY hc
 by_cases hk1:r.k = 1
 · have:zA8 bs r.k r.id = zA3 bs r.k r.id:=by funext R;exact zHZ hk1
   rw [this,zD7,if_pos hk1]
   exact zOa hw (h5 hk1)
 · by_cases hk2:r.k = 2
   · have : zA8 bs r.k r.id = fun R => (r, R) := by
       funext R
       rw [zHY hk2]
       exact congrArg (·,R) (zOq (h6 hk2)).symm
     rw [this,zD7,if_neg hk1,if_pos hk2]
     exact zDE.pure r
   · have:zA8 bs r.k r.id = zCC bs r.k r.id:=by funext R;exact zGd (by omega)
     rw [this,zD7,if_neg hk1,if_neg hk2]
     exact zR5 hw
theorem zGs {r:zAC} {last:Int} (h:zAz r last = 0):zAf r = 0 ∧ -1 ≤ last ∧ last ≤ 65535 ∧ last < r.id:=by
 unfold zAz at h
 split at h
 · omega
 · split at h
   · cases h
   · split at h
     · cases h
     · omega
theorem zPT {bs:List zQ} {r:zAC} {last:Int} (hw:r.wf) (he:zAz r last = 0):zDE bs (zCd r last) (zEJ bs last) r:=by
 obtain ⟨hc,h1,h2,h3⟩:=zGs he
 obtain ⟨c1,c2,c3,c4,_,_⟩:=zEY hc
 have hX:(((BitVec.ofInt 64 (r.id - last - 1)).toNat:Nat):Int) = r.id - last - 1:=zD2 (by omega) (by omega)
 have hL:(((BitVec.ofInt 64 (65534 - last)).toNat:Nat):Int) = 65534 - last:=zD2 (by omega) (by omega)
 have hk:(((BitVec.ofInt 8 r.k).toNat:Nat):Int) = r.k:=by rw [BitVec.toNat_ofInt];omega
 rw [zCd,if_neg (by omega),zAW,List.append_assoc]
 have q2:=zOG (bs:=bs) hw hc
 have e2:zA8 bs r.k r.id = (fun (x:zQ) R=>zA8 bs (((x.toNat:Nat):Int)) (last + 1 + (((BitVec.ofInt 64 (r.id - last - 1)).toNat:Nat):Int)) R) (BitVec.ofInt 8 r.k):=by
   funext R
   dsimp only
   rw [hk,hX,show last + 1 + (r.id - last - 1) = r.id by omega]
 rw [e2] at q2
 have q1:=(zGe (bs:=bs) (c:=BitVec.ofInt 8 r.k)).bind (g:=fun (x:zQ) R=>zA8 bs ((x.toNat:Nat):Int) (last + 1 + (((BitVec.ofInt 64 (r.id - last - 1)).toNat:Nat):Int)) R) (fun x R h=>zIj h) q2
 have q0:=(zCS (bs:=bs) (X:=BitVec.ofInt 64 (r.id - last - 1)) (L:=BitVec.ofInt 64 (65534 - last)) (by omega)).bind
   (g:=fun X R=>zA8 bs (((zH bs R).1.toNat:Nat):Int) (last + 1 + ((X.toNat:Nat):Int)) (zH bs R).2) (fun x R h=>zIj (zLE h)) q1
 exact q0
theorem zYH {bs rest : List zQ} {r : zAC} {last : Int} {p n : Nat} (hw : r.wf) (he : zAz r last = 0) (hp : p ≤ bs.length) (hd : bs.drop p = (zCd r last ++ rest).take n) :
   ((zCd r last).length ≤ n → zAF bs last ⟨p,0⟩ = (r,0,⟨p + (zCd r last).length,0⟩)) ∧ (n < (zCd r last).length → (zAF bs last ⟨p,0⟩).1 = zO5 ∧ (zAF bs last ⟨p,0⟩).2.1 = 6):=by
 have ht:=zPT (bs:=bs) hw he
 obtain ⟨hc,h1,h2,h3⟩:=zGs he
 obtain ⟨c1,c2,c3,c4,_,_⟩:=zEY hc
 refine ⟨fun hn=>?_,fun hn=>?_⟩
 · exact zE1 (by omega) (by omega) (ht.good ⟨p,0⟩ n rest rfl hp hd hn) rfl
 · have h6:=ht.short ⟨p,0⟩ n rest rfl hp hd hn
   rw [zDk (rr:=(zEJ bs last ⟨p,0⟩).1) (RR:=(zEJ bs last ⟨p,0⟩).2) (by omega) (by omega) rfl (by omega)]
   exact ⟨rfl,h6⟩
theorem zX3 {bs rest:List zQ} {r:zAC} {last:Int} {p:Nat} (hw:r.wf) (he:zAz r last = 0) (hp:p ≤ bs.length) (hd:bs.drop p = zCd r last ++ rest):zAF bs last ⟨p,0⟩ = (r,0,⟨p + (zCd r last).length,0⟩) :=
 (zYH (n:=(zCd r last ++ rest).length) hw he hp (by rw [List.take_length];exact hd)).1 (by simp)
/-! ### The other way about -/
end Go.Sx

set_option linter.unusedVariables false
set_option linter.unusedSimpArgs false
namespace Go.Sx
theorem zIq {bs:List zQ} {R:Rs} (i:Nat) : -9223372036854775808 ≤ nX bs R i ∧ nX bs R i ≤ 9223372036854775807:=by
 unfold nX zAA
 exact zFr _
theorem zS7 {bs:List zQ} {k id:Int} {R:Rs} (hk : -9223372036854775808 ≤ k ∧ k ≤ 9223372036854775807) (hi : -9223372036854775808 ≤ id ∧ id ≤ 9223372036854775807):(zCC bs k id R).1.wf:=by
 unfold zCC
 dsimp only
 exact ⟨hk,hi,zIq (bs:=bs) (R:=R) 0,zIq (bs:=bs) (R:=R) 1,zIq (bs:=bs) (R:=R) 2,zIq (bs:=bs) (R:=R) 3,zIq (bs:=bs) (R:=R) 4,zIq (bs:=bs) (R:=R) 5⟩
theorem zGH {bs:List zQ} {m:BitVec 8} {R:Rs} (i:Nat) : -9223372036854775808 ≤ upX bs m R i ∧ upX bs m R i ≤ 9223372036854775807:=by
 unfold upX upI
 split
 · unfold zAA
   exact zFr _
 · show -9223372036854775808 ≤ (0:Int) ∧ (0:Int) ≤ 9223372036854775807
   decide
theorem zQM {bs:List zQ} {k id:Int} {R:Rs} (hk : -9223372036854775808 ≤ k ∧ k ≤ 9223372036854775807) (hi : -9223372036854775808 ≤ id ∧ id ≤ 9223372036854775807):(zA3 bs k id R).1.wf:=by
 have hz : -9223372036854775808 ≤ (0:Int) ∧ (0:Int) ≤ 9223372036854775807:=by decide
 unfold zA3
 dsimp only
 split
 · exact ⟨hk,hi,hz,hz,hz,hz,hz,hz⟩
 · exact ⟨hk,hi,zGH 0,zGH 1,zGH 2,zGH 3,zGH 4,zGH 5⟩
theorem zPJ {bs:List zQ} {k id:Int} {R:Rs} (hk : -9223372036854775808 ≤ k ∧ k ≤ 9223372036854775807) (hi : -9223372036854775808 ≤ id ∧ id ≤ 9223372036854775807):(zA8 bs k id R).1.wf ∧ (zA8 bs k id R).1.k = k ∧ (zA8 bs k id R).1.id = id:=by
 have hz : -9223372036854775808 ≤ (0:Int) ∧ (0:Int) ≤ 9223372036854775807:=by decide
 unfold zA8
 split
 · exact ⟨zS7 hk hi,rfl,rfl⟩
 · split
   · refine ⟨zQM hk hi,?_,?_⟩ <;> (unfold zA3;dsimp only;split <;> rfl)
   · split <;> exact ⟨⟨hk,hi,hz,hz,hz,hz,hz,hz⟩,rfl,rfl⟩
theorem zMH : zO5.wf:=⟨by decide,by decide,by decide,by decide,by decide,by decide,by decide,by decide⟩
theorem zTT {bs:List zQ} {last:Int} {R:Rs} (hp:R.p ≤ bs.length):(zAF bs last R).1.wf:=by
 unfold zAF
 split
 · exact zMH
 · split
   · exact zMH
   · split
     · exact zMH
     · rename_i h1 h2 h3
       have h4:=zSJ (bs:=bs) (last:=last) hp (by omega) (by omega)
       have h5:=(zH bs (zQS bs last R).2).1.isLt
       exact (zPJ (by omega) (by change _ ≤ last + 1 + (((zP bs (BitVec.ofInt 64 (65534 - last)) R).1.toNat:Nat):Int) ∧ last + 1 + (((zP bs (BitVec.ofInt 64 (65534 - last)) R).1.toNat:Nat):Int) ≤ _;omega)).1
end Go.Sx
