import Derived.Test.YtemnjodhidlfpaaGreatQSxBasA
import Derived.Test.YtemnjodhidlfpaaGreatQSxRecs
import Derived.Test.YtemnjodhidlfpaaGreatQSxBasB
/- Texts of the small logic, one behind the other: SxPcrc, SxPgram, SxRgram, SxPgramR, SxPgramK, SxPgramF, SxRrec. -/
set_option linter.unusedVariables false
set_option linter.unusedSimpArgs false
namespace Go.Sx

def zXn (s:BitVec 32):BitVec 32:=(s >>> 1) ^^^ (3988292384#32 &&& -(s &&& 1#32))
def zJg : Nat → BitVec 32 → BitVec 32
 | 0,s=>s
 | k + 1,s=>zXn (zJg k s)
def zRh (s:BitVec 32) (c:zP):BitVec 32:=zJg 8 (s ^^^ c.setWidth 32)
def zMR (s:BitVec 32) (bs:List zP):BitVec 32:=bs.foldl zRh s
def zMY (s:BitVec 32) (bs:List zP):BitVec 32 := ~~~(zMR (~~~s) bs)
def zCU (bs:List zP):BitVec 32:=zMY 0#32 bs
theorem zPL (s:BitVec 32) (bs:List zP) (k:Nat) (h:k < bs.length):zMR s (bs.take (k + 1)) = zRh (zMR s (bs.take k)) (bs.getD k 0):=by
 unfold zMR
 rw [List.take_succ_eq_append_getElem h,List.foldl_append]
 simp [List.getD_eq_getElem?_getD,h]
def be4 (s:BitVec 32):List zP:=[(s >>> 24).setWidth 8,(s >>> 16).setWidth 8,(s >>> 8).setWidth 8,s.setWidth 8]
def zGm (bs:List zP):List zP:=bs ++ be4 (zCU bs)
theorem zEG (bs:List zP):(zGm bs).length = bs.length + 4:=by simp [zGm,be4]
def beN (bs:List zP):BitVec 32:=bs.foldl (fun s c=>(s <<< 8) ||| c.setWidth 32) 0#32
theorem zUD (bs:List zP) (k:Nat) (h:k < bs.length):beN (bs.take (k + 1)) = (beN (bs.take k) <<< 8) ||| (bs.getD k 0).setWidth 32:=by
 unfold beN
 rw [List.take_succ_eq_append_getElem h,List.foldl_append]
 simp [List.getD_eq_getElem?_getD,h]
theorem zax (s:BitVec 32) (c:zP) (h:s.toNat < 2 ^ 24):((s <<< 8) ||| c.setWidth 32).toNat = s.toNat * 256 + c.toNat:=by
 have hc:=c.isLt
 rw [BitVec.toNat_or,BitVec.toNat_shiftLeft,BitVec.toNat_setWidth,Nat.shiftLeft_eq,Nat.mod_eq_of_lt (by omega),Nat.mod_eq_of_lt (by omega)]
 rw [Nat.mul_comm,← Nat.two_pow_add_eq_or_of_lt hc]
theorem zbb (a b c d:zP):(beN [a,b,c,d]).toNat = a.toNat * 16777216 + b.toNat * 65536 + c.toNat * 256 + d.toNat:=by
 simp only [beN,List.foldl_cons,List.foldl_nil]
 have ha:=a.isLt
 have hb:=b.isLt
 have hc:=c.isLt
 have hd:=d.isLt
 have h0:(0#32:BitVec 32).toNat = 0:=rfl
 have h1:=zax 0#32 a (by omega)
 have h2:=zax _ b (by rw [h1];omega)
 have h3:=zax _ c (by rw [h2,h1];omega)
 have h4:=zax _ d (by rw [h3,h2,h1];omega)
 rw [h4,h3,h2,h1]
 omega
theorem zW8 (s:BitVec 32):beN (be4 s) = s:=by
 apply BitVec.eq_of_toNat_eq
 have:=s.isLt
 rw [be4,zbb]
 simp only [BitVec.toNat_setWidth,BitVec.toNat_ushiftRight,Nat.shiftRight_eq_div_pow]
 omega
theorem zTD (a b c d:zP):be4 (beN [a,b,c,d]) = [a,b,c,d]:=by
 have h:=zbb a b c d
 have ha:=a.isLt
 have hb:=b.isLt
 have hc:=c.isLt
 have hd:=d.isLt
 simp only [be4,List.cons.injEq,and_true]
 refine ⟨?_,?_,?_,?_⟩ <;> apply BitVec.eq_of_toNat_eq <;> simp only [BitVec.toNat_setWidth,BitVec.toNat_ushiftRight,Nat.shiftRight_eq_div_pow,h] <;> omega
theorem zWH : ∀ (l:List zP),l.length = 4 → be4 (beN l) = l
 | [a,b,c,d],_=>zTD a b c d
def zCu (bs:List zP):Option (List zP) :=
 if bs.length < 4 then none else if beN (bs.drop (bs.length - 4)) = zCU (bs.take (bs.length - 4)) then some (bs.take (bs.length - 4)) else none
theorem zL4 (bs:List zP):zCu (zGm bs) = some bs:=by
 unfold zCu
 have hl:=zEG bs
 rw [if_neg (by omega),hl,show bs.length + 4 - 4 = bs.length by omega]
 have h1:(zGm bs).drop bs.length = be4 (zCU bs):=by simp [zGm]
 have h2:(zGm bs).take bs.length = bs:=by simp [zGm]
 rw [h1,h2,zW8,if_pos rfl]
theorem zQD (bs x:List zP):zCu bs = some x ↔ bs = zGm x:=by
 constructor
 · intro h
   unfold zCu at h
   split at h
   · cases h
   · rename_i hl
     split at h
     · rename_i he
       injection h with h
       subst h
       unfold zGm
       rw [← he,zWH _ (by simp;omega),List.take_append_drop]
     · cases h
 · rintro rfl
   exact zL4 x
/-! ### No two sums alike -/
end Go.Sx
namespace Go.Sx
/-! ### What the laws ask -/
end Go.Sx

set_option linter.unusedVariables false
set_option linter.unusedSimpArgs false
namespace Go.Sx
theorem zHg (r:zAB):(zJ3 r).length = 9:=rfl
theorem zH5 {α:Type} [Inhabited α] {l:List α} {j:Nat} (h:j < l.length):l.take (j + 1) = l.take j ++ [l.getD j default]:=by
 rw [List.take_add_one,List.getD_eq_getElem?_getD,List.getElem?_eq_getElem h]
 rfl
theorem zLl {l:List zAB} (h:∀ x ∈ l,x.wf) {j:Nat} (hj:j < l.length):(l.getD j default).wf:=by
 rw [List.getD_eq_getElem?_getD,List.getElem?_eq_getElem hj]
 exact h _ (List.getElem_mem hj)
def zCg (O:List zAB):List zP × Int:=O.foldl (fun s r=>(s.1 ++ zCk r s.2,r.id)) ([],-1)
theorem zCw {O:List zAB} {k:Nat} (h:k < O.length):zCg (O.take (k + 1)) = ((zCg (O.take k)).1 ++ zCk (O.getD k default) (zCg (O.take k)).2,(O.getD k default).id):=by
 unfold zCg
 rw [zH5 h,List.foldl_append]
 rfl
theorem zNK : ∀ (O:List zAB) (s:List zP × Int),∃ rest,(O.foldl (fun s r=>(s.1 ++ zCk r s.2,r.id)) s).1 = s.1 ++ rest
 | [],s=>⟨[],by simp⟩
 | r :: O,s=>by
   obtain ⟨rest,h⟩:=zNK O (s.1 ++ zCk r s.2,r.id)
   exact ⟨zCk r s.2 ++ rest,by rw [List.foldl_cons,h];simp⟩
theorem zOp {O:List zAB} (k:Nat):∃ rest,(zCg O).1 = (zCg (O.take k)).1 ++ rest:=by
 have:zCg O = (O.drop k).foldl (fun s r=>(s.1 ++ zCk r s.2,r.id)) (zCg (O.take k)):=by
   unfold zCg
   rw [← List.foldl_append,List.take_append_drop]
 rw [this]
 exact zNK _ _
theorem zNh : ∀ (O:List zAB),(zCg O).1.length ≤ 100 * O.length:=by
 have key:∀ (O:List zAB) (s:List zP × Int),(O.foldl (fun s r=>(s.1 ++ zCk r s.2,r.id)) s).1.length ≤ s.1.length + 100 * O.length:=by
   intro O
   induction O with
   | nil=>intro s;simp
   | cons r O ih =>
     intro s
     have h1:=ih (s.1 ++ zCk r s.2,r.id)
     have h2:=zIF r s.2
     rw [List.foldl_cons]
     simp only [List.length_append,List.length_cons] at h1 ⊢
     omega
 intro O
 have:=key O ([],-1)
 simpa [zCg] using this
def zFR (l:List zAB) (k:Nat):Nat:=zAy (l.getD k default) (zCg (l.take k)).2
def zCG (l:List zAB):Nat → Nat
 | 0=>0
 | j + 1=>if zCG l j ≠ 0 then zCG l j else zFR l j
def zCd (l:List zAB):Nat:=zCG l l.length
theorem zPf {l:List zAB} {j:Nat} (h:zCG l j = 0) (h2:zFR l j = 0):zCG l (j + 1) = 0:=by unfold zCG;rw [if_neg (by omega),h2]
theorem zPB {l:List zAB} {j:Nat} (h:zCG l j = 0):zCG l (j + 1) = zFR l j:=by unfold zCG;rw [if_neg (by omega)]
theorem zIW {l:List zAB} {j e:Nat} (h:zCG l j = e) (he:e ≠ 0):∀ k,zCG l (j + k) = e
 | 0=>h
 | k + 1=>by
   have:=zIW h he k
   show (if zCG l (j + k) ≠ 0 then zCG l (j + k) else zFR l (j + k)) = e
   rw [if_pos (by omega),this]
theorem zG2 {l:List zAB} {j:Nat} (hj:j < l.length) (h:zCG l j = 0) (he:zFR l j ≠ 0):zCd l = zFR l j:=by
 have:=zIW (zPB h) he (l.length - (j + 1))
 rwa [show j + 1 + (l.length - (j + 1)) = l.length by omega] at this
theorem zGw {l:List zAB} {j:Nat} (h:zCG l j = 0):∀ k,k < j → zFR l k = 0:=by
 induction j with
 | zero=>intro k hk;omega
 | succ j ih =>
   unfold zCG at h
   split at h
   · omega
   · intro k hk
     by_cases e:k = j
     · subst e;exact h
     · exact ih (by omega) k (by omega)
theorem zMQ {l:List zAB} {j:Nat} (hj:j ≤ l.length) (h:zCG l j = 0) : -1 ≤ (zCg (l.take j)).2 ∧ (zCg (l.take j)).2 ≤ 65535:=by
 cases j with
 | zero=>exact ⟨(show -1 ≤ (-1:Int) by decide),(show (-1:Int) ≤ 65535 by decide)⟩
 | succ j =>
   have h1:=zC9 (zGw h j (by omega))
   rw [zCw (by omega)]
   dsimp only
   omega
def zE8 (t tm b:Int) (m:Nat):Nat:=if t < 0 ∨ 4294967295 < t ∨ tm < -2305843009213693952 ∨ 2305843009213693952 < tm ∨ b < -1 then 3 else if t ≤ b then 10 else if 128 < m then 8 else 0
def zHT (t b:Int):BitVec 64:=if 0 ≤ b then BitVec.ofInt 64 (t - b) else 0#64
def zBE (t tm b:Int) (m:Nat):List zP:=[71#8,1#8] ++ zCS (BitVec.ofInt 64 t).toNat ++ zCS (zGc tm).toNat ++ zCS (zHT t b).toNat ++ zCS (BitVec.ofInt 64 (m:Int)).toNat
def zBh (t tm b:Int) (m:Nat):List zP:=if zE8 t tm b m ≠ 0 then [] else zBE t tm b m
def zAT (t tm b:Int) (l:List zAB):Nat:=if zE8 t tm b l.length ≠ 0 then zE8 t tm b l.length else zCd l
def zDa (t tm b:Int) (l:List zAB):List zP:=if zAT t tm b l ≠ 0 then [] else zBE t tm b l.length ++ (zCg l).1
def zFp (t tm b:Int) (l:List zAB):Nat:=if zAT t tm b l ≠ 0 then zAT t tm b l else if 4092 < (zDa t tm b l).length then 8 else 0
def gwB (t tm b:Int) (l:List zAB):List zP:=if zFp t tm b l ≠ 0 then [] else zGm (zDa t tm b l)
theorem zGW (t tm b:Int) (m:Nat):(zBE t tm b m).length ≤ 42:=by
 have h1:=zER (BitVec.ofInt 64 t).toNat
 have h2:=zER (zGc tm).toNat
 have h3:=zER (zHT t b).toNat
 have h4:=zER (BitVec.ofInt 64 (m:Int)).toNat
 unfold zBE
 simp only [List.length_append,List.length_cons,List.length_nil]
 omega
theorem zDe {t tm b:Int} {m:Nat} (h:t < 0 ∨ 4294967295 < t ∨ tm < -2305843009213693952 ∨ 2305843009213693952 < tm ∨ b < -1):zE8 t tm b m = 3:=by unfold zE8;rw [if_pos h]
theorem zCO {t tm b:Int} {m:Nat} (h:¬ (t < 0 ∨ 4294967295 < t ∨ tm < -2305843009213693952 ∨ 2305843009213693952 < tm ∨ b < -1)) (h2:t ≤ b):zE8 t tm b m = 10:=by unfold zE8;rw [if_neg h,if_pos h2]
theorem zDj {t tm b:Int} {m:Nat} (h:¬ (t < 0 ∨ 4294967295 < t ∨ tm < -2305843009213693952 ∨ 2305843009213693952 < tm ∨ b < -1)) (h2:¬ t ≤ b) (h3:128 < m):zE8 t tm b m = 8:=by unfold zE8;rw [if_neg h,if_neg h2,if_pos h3]
theorem zHB {t tm b:Int} {m:Nat} (h:¬ (t < 0 ∨ 4294967295 < t ∨ tm < -2305843009213693952 ∨ 2305843009213693952 < tm ∨ b < -1)) (h2:¬ t ≤ b) (h3:¬ 128 < m):zE8 t tm b m = 0:=by unfold zE8;rw [if_neg h,if_neg h2,if_neg h3]
theorem zFE {t tm b:Int} {m:Nat} (h:zE8 t tm b m = 0):0 ≤ t ∧ t ≤ 4294967295 ∧ -2305843009213693952 ≤ tm ∧ tm ≤ 2305843009213693952 ∧ -1 ≤ b ∧ b < t ∧ m ≤ 128:=by
 unfold zE8 at h
 split at h
 · cases h
 · split at h
   · cases h
   · split at h
     · cases h
     · omega
theorem zCI {t tm b:Int} {l:List zAB} (h:zE8 t tm b l.length ≠ 0):zAT t tm b l = zE8 t tm b l.length:=by unfold zAT;rw [if_pos h]
theorem zCB {t tm b:Int} {l:List zAB} (h:zE8 t tm b l.length = 0):zAT t tm b l = zCd l:=by unfold zAT;rw [if_neg (by omega)]
theorem zGX {t tm b:Int} {l:List zAB} (h:zAT t tm b l ≠ 0):zDa t tm b l = []:=by unfold zDa;rw [if_pos h]
theorem zKT {t tm b:Int} {l:List zAB} (h:zAT t tm b l = 0):zDa t tm b l = zBE t tm b l.length ++ (zCg l).1:=by unfold zDa;rw [if_neg (by omega)]
theorem zDA {t tm b:Int} {l:List zAB} (h:zAT t tm b l = 0):zE8 t tm b l.length = 0 ∧ zCd l = 0:=by
 unfold zAT at h
 split at h
 · omega
 · exact ⟨by omega,h⟩
theorem zHJ (t tm b:Int) (l:List zAB):(zDa t tm b l).length ≤ 12842:=by
 unfold zDa
 split
 · simp
 · rename_i h
   have h1:=zFE (zDA (by omega:zAT t tm b l = 0)).1
   have h2:=zGW t tm b l.length
   have h3:=zNh l
   simp only [List.length_append]
   omega
theorem zJH (t tm b:Int) (l:List zAB):(gwB t tm b l).length ≤ 4096:=by
 unfold gwB
 split
 · simp
 · rename_i h
   have h1:zFp t tm b l = 0:=by omega
   unfold zFp at h1
   rw [zEG]
   split at h1
   · omega
   · split at h1
     · cases h1
     · omega
end Go.Sx

set_option linter.unusedVariables false
set_option linter.unusedSimpArgs false
namespace Go.Sx
/-! ### What the laws need -/
theorem zMg {t tm b:Int} {l:List zAB} (h:zFp t tm b l = 0):zAT t tm b l = 0 ∧ (zDa t tm b l).length ≤ 4092:=by
 unfold zFp at h
 split at h
 · omega
 · split at h
   · cases h
   · omega
theorem zTZ {t tm b:Int} {l:List zAB} (h:zFp t tm b l = 0):gwB t tm b l = zGm (zDa t tm b l):=by unfold gwB;rw [if_neg (by omega)]
theorem zYa {t tm b:Int} {l:List zAB} (h:zFp t tm b l = 0):zCu (gwB t tm b l) = some (zDa t tm b l):=by rw [zTZ h];exact zL4 _
end Go.Sx

set_option linter.unusedVariables false
set_option linter.unusedSimpArgs false
namespace Go.Sx
def zEx (c:zP) (bs:List zP) (R:Rs):Rs:=if (zH bs R).1.toNat = c.toNat then (zH bs R).2 else zBj 7 (zH bs R).2
def zK7 (bs:List zP) (R:Rs):Rs:=zEx 1#8 bs (zEx 71#8 bs R)
def gT (bs:List zP) (R:Rs):Int × Rs:=((((zO bs 4294967295#64 R).1.toNat:Nat):Int),(zO bs 4294967295#64 R).2)
def gTm (bs:List zP) (R:Rs):Int × Rs:=((zAA bs R).1,if -2305843009213693952 ≤ (zAA bs R).1 ∧ (zAA bs R).1 ≤ 2305843009213693952 then (zAA bs R).2 else zBj 3 (zAA bs R).2)
def gB (bs:List zP) (t:Int) (R:Rs):Int × Rs:=(if 0 < (zO bs (BitVec.ofInt 64 t) R).1.toNat then t - (((zO bs (BitVec.ofInt 64 t) R).1.toNat:Nat):Int) else -1,(zO bs (BitVec.ofInt 64 t) R).2)
def zMl (bs:List zP) (s:List zAB × Int × Rs):List zAB × Int × Rs :=
 if (zAG bs s.2.1 s.2.2).2.1 ≠ 0 then (s.1,s.2.1,(zAG bs s.2.1 s.2.2).2.2) else (s.1 ++ [(zAG bs s.2.1 s.2.2).1],(zAG bs s.2.1 s.2.2).1.id,(zAG bs s.2.1 s.2.2).2.2)
def zKF (bs:List zP) (s:List zAB × Int × Rs):Nat → List zAB × Int × Rs
 | 0=>s
 | i + 1=>if (zKF bs s i).2.2.e ≠ 0 then zKF bs s i else zMl bs (zKF bs s i)
def zU (bs:List zP) (R:Rs) (i:Nat):List zAB × Int × Rs:=zKF bs ([],-1,(zO bs 128#64 R).2) i
def gN (bs:List zP) (R:Rs):Nat:=(zO bs 128#64 R).1.toNat
def gR1 (x:List zP):Rs:=zK7 x ⟨0,0⟩
def gTx (x:List zP):Int × Rs:=gT x (gR1 x)
def zHF (x:List zP):Int × Rs:=gTm x (gTx x).2
def gBx (x:List zP):Int × Rs:=gB x (gTx x).1 (zHF x).2
def gSx (x:List zP):List zAB × Int × Rs:=zU x (gBx x).2 (gN x (gBx x).2)
def gEx (x:List zP):Nat:=zIw x (gSx x).2.2
structure zBk where
 t:Int
 tm:Int
 b:Int
 l:List zAB
 e:Nat
def zA (bs:List zP):zBk :=
 if 4096 < bs.length then ⟨0,0,0,[],8⟩ else match zCu bs with
   | none=>⟨0,0,0,[],9⟩
   | some x=>if gEx x ≠ 0 then ⟨0,0,0,[],gEx x⟩ else ⟨(gTx x).1,(zHF x).1,(gBx x).1,(gSx x).1,0⟩
theorem zKp {X:BitVec 64} (h:X.toNat ≤ 9223372036854775807):X.toInt = ((X.toNat:Nat):Int):=by rw [BitVec.toInt_eq_toNat_cond,if_pos (by omega)]
theorem zLY (i:Nat):BitVec.ofNat 64 i + 1#64 = BitVec.ofNat 64 (i + 1):=by
 apply BitVec.eq_of_toNat_eq
 simp
theorem zHp {c:zP} {bs:List zP} {R:Rs} (h:R.p ≤ bs.length):(zEx c bs R).p ≤ bs.length ∧ R.p ≤ (zEx c bs R).p:=by
 have h1:=zD8 h
 have h2:=zBX (e:=7) h1.1
 unfold zEx
 split <;> omega
theorem zLS {bs:List zP} {R:Rs} (h:R.p ≤ bs.length):(zK7 bs R).p ≤ bs.length:=(zHp (zHp h).1).1
theorem zZx {bs:List zP} {R:Rs} (h:R.p ≤ bs.length):(gT bs R).2.p ≤ bs.length ∧ 0 ≤ (gT bs R).1 ∧ (gT bs R).1 ≤ 4294967295:=by
 have h1:=zA0 (X:=4294967295#64) h
 have h2:(4294967295#64).toNat = 4294967295:=rfl
 unfold gT
 dsimp only
 omega
theorem zVt {bs:List zP} {R:Rs} (h:R.p ≤ bs.length):(gTm bs R).2.p ≤ bs.length ∧ -9223372036854775808 ≤ (gTm bs R).1 ∧ (gTm bs R).1 ≤ 9223372036854775807:=by
 have h1:=zDG h
 have h2:=zBX (e:=3) h1.1
 have h3 : -9223372036854775808 ≤ (zAA bs R).1 ∧ (zAA bs R).1 ≤ 9223372036854775807:=by unfold zAA;exact zGF _
 unfold gTm
 dsimp only
 split <;> omega
theorem zan {bs:List zP} {t:Int} {R:Rs} (h:R.p ≤ bs.length) (ht:0 ≤ t ∧ t ≤ 4294967295):(gB bs t R).2.p ≤ bs.length ∧ -1 ≤ (gB bs t R).1 ∧ (gB bs t R).1 ≤ 4294967295:=by
 have h1:=zA0 (X:=BitVec.ofInt 64 t) h
 have h2:=zD9 (x:=t) (by omega) (by omega)
 unfold gB
 dsimp only
 split <;> omega
structure zVf (bs:List zP) (i:Nat) (s:List zAB × Int × Rs):Prop where
 p:s.2.2.p ≤ bs.length
 lo : -1 ≤ s.2.1
 hi:s.2.1 ≤ 65535
 len:s.1.length ≤ i
theorem zRZ {bs:List zP} {last:Int} {R:Rs} (h : -1 ≤ last ∧ last ≤ 65535):(zAG bs last R).2.1 = (zAG bs last R).2.2.e:=by
 unfold zAG
 rw [if_neg (by omega)]
 split
 · rfl
 · split
   · rfl
   · rename_i h1
     exact (Decidable.not_not.1 h1).symm
theorem zVJ (bs:List zP) (last:Int) (R:Rs):(zEZ bs last R).1.id = last + 1 + (((zQH bs last R).1.toNat:Nat):Int):=by
 unfold zEZ zBA zCJ zA1
 dsimp only
 (repeat' split) <;> rfl
theorem zVG {bs:List zP} {last:Int} {R:Rs} (hp:R.p ≤ bs.length) (h : -1 ≤ last ∧ last ≤ 65535) (h0:(zAG bs last R).2.1 = 0):last < (zAG bs last R).1.id ∧ (zAG bs last R).1.id ≤ 65535:=by
 unfold zAG at h0 ⊢
 rw [if_neg (by omega)] at h0 ⊢
 by_cases hl:last = 65535
 · rw [if_pos hl] at h0
   unfold zBj at h0
   split at h0
   · simp at h0
   · contradiction
 · rw [if_neg hl] at h0 ⊢
   split at h0
   · contradiction
   · rename_i h1
     rw [if_neg h1]
     dsimp only
     rw [zVJ]
     have h2:=zA0 (X:=BitVec.ofInt 64 (65534 - last)) hp
     have h3:=zD9 (x:=65534 - last) (by omega) (by omega)
     unfold zQH
     omega
theorem zPh {bs:List zP} {i:Nat} {s:List zAB × Int × Rs} (h:zVf bs i s):zVf bs (i + 1) (zMl bs s):=by
 have hp:=zM5 (last:=s.2.1) h.p
 have hl:=h.len
 unfold zMl
 split
 · exact ⟨hp.1,h.lo,h.hi,by dsimp only;omega⟩
 · rename_i h0
   have hi:=zVG h.p ⟨h.lo,h.hi⟩ (by omega)
   have hlo:=h.lo
   refine ⟨hp.1,by dsimp only;omega,by dsimp only;omega,by simp only [List.length_append,List.length_singleton];omega⟩
theorem zJf {bs:List zP} {s:List zAB × Int × Rs} (h:zVf bs 0 s):∀ i,zVf bs i (zKF bs s i)
 | 0=>h
 | i + 1=>by
   unfold zKF
   have h1:=zJf h i
   split
   · exact ⟨h1.p,h1.lo,h1.hi,Nat.le_succ_of_le h1.len⟩
   · exact zPh h1
theorem zVQ {bs:List zP} {R:Rs} (hR:R.p ≤ bs.length):zVf bs 0 ([],-1,(zO bs 128#64 R).2):=⟨(zA0 hR).1,Int.le_refl _,by show (-1:Int) ≤ 65535;decide,Nat.le_refl 0⟩
theorem zCv {bs:List zP} {R:Rs} (hR:R.p ≤ bs.length) (i:Nat):zVf bs i (zU bs R i):=zJf (zVQ hR) i
theorem zLc {bs:List zP} {s:List zAB × Int × Rs} {i:Nat} (h:(zKF bs s i).2.2.e ≠ 0):∀ k,zKF bs s (i + k) = zKF bs s i
 | 0=>rfl
 | k + 1=>by
   have h1:=zLc h k
   show (if (zKF bs s (i + k)).2.2.e ≠ 0 then zKF bs s (i + k) else _) = _
   rw [h1,if_pos h]
theorem zXE (bs:List zP) (R:Rs):gN bs R ≤ 128:=by
 have h2:(128#64).toNat = 128:=rfl
 unfold gN zO
 split
 · exact Nat.zero_le _
 · split
   · exact Nat.zero_le _
   · split
     · exact Nat.zero_le _
     · rename_i h
       have h1:=(zMF (Decidable.not_not.1 h)).2
       dsimp only
       omega
theorem zVL {bs:List zP} {R:Rs}:gN bs R ≤ 0 ∨ (zU bs R 0).2.2.e = 0:=by
 show (zO bs 128#64 R).1.toNat ≤ 0 ∨ (zO bs 128#64 R).2.e = 0
 unfold zO
 (repeat' split) <;> first | exact .inl (Nat.le_refl 0) | exact .inr rfl
theorem zJu {bs:List zP} {R:Rs} {i:Nat} (h:(zU bs R i).2.2.e = 0) (h0:(zAG bs (zU bs R i).2.1 (zU bs R i).2.2).2.1 = 0):zU bs R (i + 1) = ((zU bs R i).1 ++ [(zAG bs (zU bs R i).2.1 (zU bs R i).2.2).1],(zAG bs (zU bs R i).2.1 (zU bs R i).2.2).1.id,(zAG bs (zU bs R i).2.1 (zU bs R i).2.2).2.2):=by
 show zKF _ _ (i + 1) = _
 unfold zKF
 rw [if_neg (by unfold zU at h;omega)]
 unfold zMl
 rw [if_neg (by unfold zU at h0;omega)]
 rfl
theorem zOV {bs:List zP} {R:Rs} {i:Nat} (hR:R.p ≤ bs.length) (h:(zU bs R i).2.2.e = 0) (h0:(zAG bs (zU bs R i).2.1 (zU bs R i).2.2).2.1 = 0):(zU bs R (i + 1)).2.2.e = 0:=by
 have hi:=zCv hR i
 rw [zJu h h0,← h0]
 exact (zRZ ⟨hi.lo,hi.hi⟩).symm
theorem zQ0 {bs:List zP} {R:Rs} {i:Nat} (hR:R.p ≤ bs.length) (hi:i < gN bs R) (h:(zU bs R i).2.2.e = 0) (h0:(zAG bs (zU bs R i).2.1 (zU bs R i).2.2).2.1 ≠ 0):zU bs R (gN bs R) = ((zU bs R i).1,(zU bs R i).2.1,(zAG bs (zU bs R i).2.1 (zU bs R i).2.2).2.2):=by
 have hv:=zCv hR i
 have h1:zU bs R (i + 1) = ((zU bs R i).1,(zU bs R i).2.1,(zAG bs (zU bs R i).2.1 (zU bs R i).2.2).2.2):=by
   show zKF _ _ (i + 1) = _
   unfold zKF
   rw [if_neg (by unfold zU at h;omega)]
   unfold zMl
   rw [if_pos (by unfold zU at h0;omega)]
   rfl
 have h2:=zRZ (bs:=bs) (R:=(zU bs R i).2.2) ⟨hv.lo,hv.hi⟩
 have h3:=zLc (bs:=bs) (s:=([],-1,(zO bs 128#64 R).2)) (i:=i + 1) (by
   show (zU bs R (i + 1)).2.2.e ≠ 0
   rw [h1]
   dsimp only
   omega) (gN bs R - (i + 1))
 rw [show i + 1 + (gN bs R - (i + 1)) = gN bs R by omega] at h3
 exact h3.trans h1
theorem zJN {bs:List zP} (h:4096 < bs.length):zA bs = ⟨0,0,0,[],8⟩:=by unfold zA;rw [if_pos h]
theorem zJC {bs:List zP} (h:¬ 4096 < bs.length) (ho:zCu bs = none):zA bs = ⟨0,0,0,[],9⟩:=by unfold zA;rw [if_neg h,ho]
theorem zLM {bs x:List zP} (h:¬ 4096 < bs.length) (ho:zCu bs = some x) (he:gEx x ≠ 0):zA bs = ⟨0,0,0,[],gEx x⟩:=by
 unfold zA
 rw [if_neg h,ho]
 dsimp only
 rw [if_pos he]
theorem zKG {bs x:List zP} (h:¬ 4096 < bs.length) (ho:zCu bs = some x) (he:gEx x = 0):zA bs = ⟨(gTx x).1,(zHF x).1,(gBx x).1,(gSx x).1,0⟩:=by
 unfold zA
 rw [if_neg h,ho]
 dsimp only
 rw [if_neg (by omega)]
theorem zVd (x:List zP):(gR1 x).p ≤ x.length:=zLS (Nat.zero_le _)
theorem zN0 (x:List zP):(gTx x).2.p ≤ x.length ∧ 0 ≤ (gTx x).1 ∧ (gTx x).1 ≤ 4294967295:=zZx (zVd x)
theorem zMV (x:List zP):(zHF x).2.p ≤ x.length ∧ -9223372036854775808 ≤ (zHF x).1 ∧ (zHF x).1 ≤ 9223372036854775807:=zVt (zN0 x).1
theorem zLQ (x:List zP):(gBx x).2.p ≤ x.length ∧ -1 ≤ (gBx x).1 ∧ (gBx x).1 ≤ 4294967295:=zan (zMV x).1 (zN0 x).2
theorem zSC (x:List zP):(gSx x).1.length ≤ 128:=by unfold gSx;exact Nat.le_trans (zCv (zLQ x).1 _).len (zXE _ _)
theorem zGv (x:List zP):zU x (gBx x).2 (gN x (gBx x).2) = gSx x:=rfl
theorem zSQ (x:List zP):zIw x (gSx x).2.2 = gEx x:=rfl
theorem zbF (x:List zP):(gSx x).2.2.p ≤ x.length:=by rw [← zGv];exact (zCv (zLQ x).1 _).p
theorem zGP (bs:List zP):(zA bs).l.length ≤ 128 ∧ 0 ≤ (zA bs).t ∧ (zA bs).t ≤ 4294967295 ∧ -9223372036854775808 ≤ (zA bs).tm ∧ (zA bs).tm ≤ 9223372036854775807 ∧ -1 ≤ (zA bs).b ∧ (zA bs).b ≤ 4294967295:=by
 unfold zA
 split
 · simp
 · split
   · simp
   · rename_i x _
     have h1:=zN0 x
     have h2:=zMV x
     have h3:=zLQ x
     have h4:=zSC x
     split
     · simp
     · dsimp only
       omega
theorem zZm (x:List zP):zEx 1#8 x (zEx 71#8 x ⟨0,0⟩) = gR1 x:=rfl
theorem zaG (x:List zP):gTx x = ((((zO x 4294967295#64 (gR1 x)).1.toNat:Nat):Int),(zO x 4294967295#64 (gR1 x)).2):=rfl
theorem zWv {x:List zP} (h : -2305843009213693952 ≤ (zAA x (gTx x).2).1 ∧ (zAA x (gTx x).2).1 ≤ 2305843009213693952):zHF x = ((zAA x (gTx x).2).1,(zAA x (gTx x).2).2):=by unfold zHF gTm;rw [if_pos h]
theorem zW9 {x:List zP} (h:0 < (zO x (BitVec.ofInt 64 (gTx x).1) (zHF x).2).1.toNat):gBx x = ((gTx x).1 - (((zO x (BitVec.ofInt 64 (gTx x).1) (zHF x).2).1.toNat:Nat):Int),(zO x (BitVec.ofInt 64 (gTx x).1) (zHF x).2).2):=by unfold gBx gB;rw [if_pos h]
theorem zXF {x:List zP} (h:¬ 0 < (zO x (BitVec.ofInt 64 (gTx x).1) (zHF x).2).1.toNat):gBx x = (-1,(zO x (BitVec.ofInt 64 (gTx x).1) (zHF x).2).2):=by unfold gBx gB;rw [if_neg h]
end Go.Sx

set_option linter.unusedVariables false
set_option linter.unusedSimpArgs false
namespace Go.Sx
theorem zR8 {bs:List zP} {s:List zAB × Int × Rs} (h:zVf bs 0 s) (hw:∀ r ∈ s.1,r.wf):∀ i,∀ r ∈ (zKF bs s i).1,r.wf
 | 0=>hw
 | i + 1=>by
   have h1:=zJf h i
   have h2:=zR8 h hw i
   unfold zKF
   split
   · exact h2
   · unfold zMl
     split
     · exact h2
     · intro r hr
       rcases List.mem_append.1 hr with hr | hr
       · exact h2 r hr
       · rw [List.mem_singleton.1 hr];exact zTd h1.p
theorem zZE (x:List zP):∀ r ∈ (gSx x).1,r.wf:=by
 rw [← zGv]
 unfold zU
 exact zR8 (zVQ (zLQ x).1) (fun r hr=>by cases hr) _
theorem zKX (bs:List zP):∀ r ∈ (zA bs).l,r.wf:=by
 unfold zA
 split
 · simp
 · split
   · simp
   · split
     · simp
     · dsimp only;exact zZE _
end Go.Sx

set_option linter.unusedVariables false
set_option linter.unusedSimpArgs false
namespace Go.Sx
theorem zDI.full {α:Type} {bs c rest:List zP} {f:Rs → α × Rs} {v:α} {p:Nat} (h:zDI bs c f v) (hp:p ≤ bs.length) (hd:bs.drop p = c ++ rest):f ⟨p,0⟩ = (v,⟨p + c.length,0⟩) ∧ bs.drop (p + c.length) = rest ∧ p + c.length ≤ bs.length:=by
 have hd':bs.drop p = (c ++ rest).take (c ++ rest).length:=by rw [List.take_length];exact hd
 have h2:=zMI hd' (by simp) hp
 exact ⟨h.good ⟨p,0⟩ _ rest rfl hp hd' (by simp),by rw [h2.1,List.length_append,Nat.add_sub_cancel_left,List.take_length],h2.2⟩
theorem zLa {bs rest:List zP} {c:zP} {p:Nat} (hp:p ≤ bs.length) (hd:bs.drop p = [c] ++ rest):zEx c bs ⟨p,0⟩ = ⟨p + 1,0⟩ ∧ bs.drop (p + 1) = rest ∧ p + 1 ≤ bs.length:=by
 obtain ⟨h1,h2,h3⟩:=(zGq (bs:=bs) (c:=c)).full hp hd
 refine ⟨?_,h2,h3⟩
 unfold zEx
 rw [h1,if_pos rfl]
 rfl
theorem zLI {bs : List zP} {l : List zAB} {R : Rs} {p : Nat} (hl : ∀ x ∈ l, x.wf) (he : zCd l = 0) (h0 : (zO bs 128#64 R).2 = ⟨p, 0⟩) (hp : p ≤ bs.length) (hR : R.p ≤ bs.length) {tail : List zP} (hd : bs.drop p = (zCg l).1 ++ tail) :
   ∀ i,i ≤ l.length → zU bs R i = (l.take i,(zCg (l.take i)).2,⟨p + (zCg (l.take i)).1.length,0⟩)
 | 0,_=>by
   show ([],(-1:Int),(zO bs 128#64 R).2) = _
   rw [h0]
   rfl
 | i + 1,hi=>by
   have ih:=zLI hl he h0 hp hR hd i (by omega)
   obtain ⟨rest,hs⟩:=zOp (O:=l) (i + 1)
   rw [zCw (by omega)] at hs
   have hds:=hd
   rw [hs,List.append_assoc,List.append_assoc] at hds
   have hlen:=congrArg List.length hds
   simp only [List.length_drop,List.length_append] at hlen
   have h1:bs.drop (p + (zCg (l.take i)).1.length) = zCk (l.getD i default) (zCg (l.take i)).2 ++ (rest ++ tail):=by
     rw [← List.drop_drop,hds,List.drop_left]
   have hq:=zW0 (bs:=bs) (last:=(zCg (l.take i)).2) (zLl hl (by omega)) (zGw he i (by omega)) (by omega) h1
   rw [zJu (by rw [ih]) (by rw [ih];dsimp only;rw [hq]),ih]
   dsimp only
   rw [hq,zCw (by omega),zH5 (by omega)]
   dsimp only
   rw [List.length_append,Nat.add_assoc]
theorem zOa {t tm b:Int} {l:List zAB} {x tail:List zP} (hl:∀ x ∈ l,x.wf) (hb:zAT t tm b l = 0) (hx0:x = zDa t tm b l ++ tail):(gTx x).1 = t ∧ (zHF x).1 = tm ∧ (gBx x).1 = b ∧ (gSx x).1 = l ∧ gEx x = if tail = [] then 0 else 8:=by
 obtain ⟨hg,hr⟩:=zDA hb
 obtain ⟨g1,g2,g3,g4,g5,g6,g7⟩:=zFE hg
 have hx:x = [71#8] ++ ([1#8] ++ (zCS (BitVec.ofInt 64 t).toNat ++ (zDY tm ++ (zCS (zHT t b).toNat ++ (zCS (BitVec.ofInt 64 (l.length:Int)).toNat ++ ((zCg l).1 ++ tail)))))):=by
   rw [hx0,zKT hb,zBE,zDY]
   simp only [List.append_assoc,List.cons_append,List.nil_append]
 have ht:=zD9 (x:=t) (by omega) (by omega)
 have hm:=zD9 (x:=(l.length:Int)) (by omega) (by omega)
 have hbk:((zHT t b).toNat:Int) = if 0 ≤ b then t - b else 0:=by
   unfold zHT
   split
   · exact zD9 (by omega) (by omega)
   · rfl
 obtain ⟨a1,a2,a3⟩:=zLa (bs:=x) (p:=0) (Nat.zero_le _) (by rw [List.drop_zero];exact hx)
 obtain ⟨b1,b2,b3⟩:=zLa a3 a2
 have e1:gR1 x = ⟨0 + 1 + 1,0⟩:=by rw [← zZm,a1,b1]
 obtain ⟨c1,c2,c3⟩:=(zCc (bs:=x) (L:=4294967295#64) (X:=BitVec.ofInt 64 t) (by show _ ≤ 4294967295;omega)).full b3 b2
 have e2:gTx x = (t,⟨0 + 1 + 1 + (zCS (BitVec.ofInt 64 t).toNat).length,0⟩):=by rw [zaG,e1,c1,ht]
 obtain ⟨d1,d2,d3⟩:=(zCn (bs:=x) (x:=tm) (by omega)).full c3 c2
 generalize hp2:0 + 1 + 1 + (zCS (BitVec.ofInt 64 t).toNat).length = p2 at *
 have e3:zHF x = (tm,⟨p2 + (zDY tm).length,0⟩):=by
   have q:zAA x (gTx x).2 = (tm,⟨p2 + (zDY tm).length,0⟩):=by rw [e2];exact d1
   rw [zWv (by rw [q];dsimp only;omega),q]
 generalize hp3:p2 + (zDY tm).length = p3 at *
 obtain ⟨f1,f2,f3⟩:=(zCc (bs:=x) (L:=BitVec.ofInt 64 t) (X:=zHT t b) (by split at hbk <;> omega)).full d3 d2
 generalize hp4:p3 + (zCS (zHT t b).toNat).length = p4 at *
 have e4:gBx x = (b,⟨p4,0⟩):=by
   have q:zO x (BitVec.ofInt 64 (gTx x).1) (zHF x).2 = (zHT t b,⟨p4,0⟩):=by rw [e2,e3];exact f1
   by_cases hb0:0 ≤ b
   · rw [if_pos hb0] at hbk
     rw [zW9 (by rw [q];dsimp only;omega),q,e2]
     dsimp only
     rw [hbk,show t - (t - b) = b by omega]
   · rw [if_neg hb0] at hbk
     rw [zXF (by rw [q];dsimp only;omega),q]
     dsimp only
     rw [show b = -1 by omega]
 obtain ⟨k1,k2,k3⟩:=(zCc (bs:=x) (L:=128#64) (X:=BitVec.ofInt 64 (l.length:Int)) (by show _ ≤ 128;omega)).full f3 f2
 have hn:gN x (gBx x).2 = l.length:=by
   unfold gN
   rw [e4]
   dsimp only
   rw [k1]
   dsimp only
   omega
 have hrec:=zLI (R:=(gBx x).2) hl hr (by rw [e4];dsimp only;rw [k1]) k3 (by rw [e4];exact f3) k2 l.length (Nat.le_refl _)
 rw [List.take_length] at hrec
 have hS:gSx x = (l,(zCg l).2,⟨p4 + (zCS (BitVec.ofInt 64 (l.length:Int)).toNat).length + (zCg l).1.length,0⟩):=by rw [← zGv,hn,hrec]
 have hlen:=congrArg List.length k2
 rw [List.length_drop,List.length_append] at hlen
 have hE:gEx x = if tail = [] then 0 else 8:=by
   rw [← zSQ,hS]
   unfold zIw
   cases tail with
   | nil =>
     rw [List.length_nil] at hlen
     rw [if_pos (.inr (by dsimp only;omega)),if_pos rfl]
   | cons c tl =>
     rw [List.length_cons] at hlen
     rw [if_neg (by dsimp only;omega),if_neg (by simp)]
 exact ⟨by rw [e2],by rw [e3],by rw [e4],by rw [hS],hE⟩
theorem zIZ {t tm b:Int} {l:List zAB} (hl:∀ x ∈ l,x.wf) (h:zFp t tm b l = 0):zA (gwB t tm b l) = ⟨t,tm,b,l,0⟩:=by
 have hw:=zJH t tm b l
 obtain ⟨h1,h2,h3,h4,h5⟩:=zOa (x:=zDa t tm b l) (tail:=[]) hl (zMg h).1 (by rw [List.append_nil])
 rw [zKG (by omega) (zYa h) (by rw [h5];rfl),h1,h2,h3,h4]
end Go.Sx

set_option linter.unusedVariables false
set_option linter.unusedSimpArgs false
namespace Go.Sx
theorem zM4 {α:Type} {f:Nat → List Value} {g:α → List Value} {p:α → Prop}:∀ (n:Nat),(∀ i,i < n → ∃ a:α,f i = g a ∧ p a) → ∃ l:List α,l.length = n ∧ (List.range n).flatMap f = l.flatMap g ∧ ∀ x ∈ l,p x
 | 0,_=>⟨[],rfl,rfl,by simp⟩
 | n + 1,h=>by
   obtain ⟨l,hl,he,hp⟩:=zM4 n fun i hi=>h i (by omega)
   obtain ⟨a,ha,hpa⟩:=h n (by omega)
   refine ⟨l ++ [a],by simp [hl],by rw [List.range_succ,List.flatMap_append,List.flatMap_append,he];simp [ha],fun x hx=>?_⟩
   rcases List.mem_append.1 hx with hx | hx
   · exact hp x hx
   · rw [List.mem_singleton] at hx;subst hx;exact hpa
/-! ### A row of records -/
/-! ### Sizes -/
end Go.Sx
