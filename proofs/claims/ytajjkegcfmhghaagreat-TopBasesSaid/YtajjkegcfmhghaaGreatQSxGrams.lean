import Derived.Test.YtajjkegcfmhghaaGreatQSxBasA
import Derived.Test.YtajjkegcfmhghaaGreatQSxRecs
import Derived.Test.YtajjkegcfmhghaaGreatQSxBasB
/- Texts of the small logic, one behind the other: SxPcrc, SxPgram, SxRgram, SxPgramR, SxPgramK, SxPgramF, SxRrec. -/
set_option linter.unusedVariables false
set_option linter.unusedSimpArgs false
namespace Go.Sx

def zYM (s:BitVec 32):BitVec 32:=(s >>> 1) ^^^ (3988292384#32 &&& -(s &&& 1#32))
def zKa : Nat → BitVec 32 → BitVec 32
 | 0,s=>s
 | k + 1,s=>zYM (zKa k s)
def zSq (s:BitVec 32) (c:zP):BitVec 32:=zKa 8 (s ^^^ c.setWidth 32)
def zNM (s:BitVec 32) (bs:List zP):BitVec 32:=bs.foldl zSq s
def zNH (s:BitVec 32) (bs:List zP):BitVec 32 := ~~~(zNM (~~~s) bs)
def zCS (bs:List zP):BitVec 32:=zNH 0#32 bs
theorem zPI (s:BitVec 32) (bs:List zP) (k:Nat) (h:k < bs.length):zNM s (bs.take (k + 1)) = zSq (zNM s (bs.take k)) (bs.getD k 0):=by
 unfold zNM
 rw [List.take_succ_eq_append_getElem h,List.foldl_append]
 simp [List.getD_eq_getElem?_getD,h]
def be4 (s:BitVec 32):List zP:=[(s >>> 24).setWidth 8,(s >>> 16).setWidth 8,(s >>> 8).setWidth 8,s.setWidth 8]
def zG4 (bs:List zP):List zP:=bs ++ be4 (zCS bs)
theorem zEC (bs:List zP):(zG4 bs).length = bs.length + 4:=by simp [zG4,be4]
def beN (bs:List zP):BitVec 32:=bs.foldl (fun s c=>(s <<< 8) ||| c.setWidth 32) 0#32
theorem zVU (bs:List zP) (k:Nat) (h:k < bs.length):beN (bs.take (k + 1)) = (beN (bs.take k) <<< 8) ||| (bs.getD k 0).setWidth 32:=by
 unfold beN
 rw [List.take_succ_eq_append_getElem h,List.foldl_append]
 simp [List.getD_eq_getElem?_getD,h]
theorem zbz (s:BitVec 32) (c:zP) (h:s.toNat < 2 ^ 24):((s <<< 8) ||| c.setWidth 32).toNat = s.toNat * 256 + c.toNat:=by
 have hc:=c.isLt
 rw [BitVec.toNat_or,BitVec.toNat_shiftLeft,BitVec.toNat_setWidth,Nat.shiftLeft_eq,Nat.mod_eq_of_lt (by omega),Nat.mod_eq_of_lt (by omega)]
 rw [Nat.mul_comm,← Nat.two_pow_add_eq_or_of_lt hc]
theorem zcs (a b c d:zP):(beN [a,b,c,d]).toNat = a.toNat * 16777216 + b.toNat * 65536 + c.toNat * 256 + d.toNat:=by
 simp only [beN,List.foldl_cons,List.foldl_nil]
 have ha:=a.isLt
 have hb:=b.isLt
 have hc:=c.isLt
 have hd:=d.isLt
 have h0:(0#32:BitVec 32).toNat = 0:=rfl
 have h1:=zbz 0#32 a (by omega)
 have h2:=zbz _ b (by rw [h1];omega)
 have h3:=zbz _ c (by rw [h2,h1];omega)
 have h4:=zbz _ d (by rw [h3,h2,h1];omega)
 rw [h4,h3,h2,h1]
 omega
theorem zZe (s:BitVec 32):beN (be4 s) = s:=by
 apply BitVec.eq_of_toNat_eq
 have:=s.isLt
 rw [be4,zcs]
 simp only [BitVec.toNat_setWidth,BitVec.toNat_ushiftRight,Nat.shiftRight_eq_div_pow]
 omega
theorem zUM (a b c d:zP):be4 (beN [a,b,c,d]) = [a,b,c,d]:=by
 have h:=zcs a b c d
 have ha:=a.isLt
 have hb:=b.isLt
 have hc:=c.isLt
 have hd:=d.isLt
 simp only [be4,List.cons.injEq,and_true]
 refine ⟨?_,?_,?_,?_⟩ <;> apply BitVec.eq_of_toNat_eq <;> simp only [BitVec.toNat_setWidth,BitVec.toNat_ushiftRight,Nat.shiftRight_eq_div_pow,h] <;> omega
theorem zYP : ∀ (l:List zP),l.length = 4 → be4 (beN l) = l
 | [a,b,c,d],_=>zUM a b c d
def zCo (bs:List zP):Option (List zP) :=
 if bs.length < 4 then none else if beN (bs.drop (bs.length - 4)) = zCS (bs.take (bs.length - 4)) then some (bs.take (bs.length - 4)) else none
theorem zK1 (bs:List zP):zCo (zG4 bs) = some bs:=by
 unfold zCo
 have hl:=zEC bs
 rw [if_neg (by omega),hl,show bs.length + 4 - 4 = bs.length by omega]
 have h1:(zG4 bs).drop bs.length = be4 (zCS bs):=by simp [zG4]
 have h2:(zG4 bs).take bs.length = bs:=by simp [zG4]
 rw [h1,h2,zZe,if_pos rfl]
theorem zTA (bs x:List zP):zCo bs = some x ↔ bs = zG4 x:=by
 constructor
 · intro h
   unfold zCo at h
   split at h
   · cases h
   · rename_i hl
     split at h
     · rename_i he
       injection h with h
       subst h
       unfold zG4
       rw [← he,zYP _ (by simp;omega),List.take_append_drop]
     · cases h
 · rintro rfl
   exact zK1 x
/-! ### No two sums alike -/
end Go.Sx
namespace Go.Sx
/-! ### What the laws ask -/
end Go.Sx

set_option linter.unusedVariables false
set_option linter.unusedSimpArgs false
namespace Go.Sx
theorem zGB (r:zX):(zDq r).length = 9:=rfl
theorem zIT {α:Type} [Inhabited α] {l:List α} {j:Nat} (h:j < l.length):l.take (j + 1) = l.take j ++ [l.getD j default]:=by
 rw [List.take_add_one,List.getD_eq_getElem?_getD,List.getElem?_eq_getElem h]
 rfl
theorem zMC {l:List zX} (h:∀ x ∈ l,x.wf) {j:Nat} (hj:j < l.length):(l.getD j default).wf:=by
 rw [List.getD_eq_getElem?_getD,List.getElem?_eq_getElem hj]
 exact h _ (List.getElem_mem hj)
def zCg (O:List zX):List zP × Int:=O.foldl (fun s r=>(s.1 ++ zCf r s.2,r.id)) ([],-1)
theorem zCm {O:List zX} {k:Nat} (h:k < O.length):zCg (O.take (k + 1)) = ((zCg (O.take k)).1 ++ zCf (O.getD k default) (zCg (O.take k)).2,(O.getD k default).id):=by
 unfold zCg
 rw [zIT h,List.foldl_append]
 rfl
theorem zOM : ∀ (O:List zX) (s:List zP × Int),∃ rest,(O.foldl (fun s r=>(s.1 ++ zCf r s.2,r.id)) s).1 = s.1 ++ rest
 | [],s=>⟨[],by simp⟩
 | r :: O,s=>by
   obtain ⟨rest,h⟩:=zOM O (s.1 ++ zCf r s.2,r.id)
   exact ⟨zCf r s.2 ++ rest,by rw [List.foldl_cons,h];simp⟩
theorem zPO {O:List zX} (k:Nat):∃ rest,(zCg O).1 = (zCg (O.take k)).1 ++ rest:=by
 have:zCg O = (O.drop k).foldl (fun s r=>(s.1 ++ zCf r s.2,r.id)) (zCg (O.take k)):=by
   unfold zCg
   rw [← List.foldl_append,List.take_append_drop]
 rw [this]
 exact zOM _ _
theorem zOG : ∀ (O:List zX),(zCg O).1.length ≤ 100 * O.length:=by
 have key:∀ (O:List zX) (s:List zP × Int),(O.foldl (fun s r=>(s.1 ++ zCf r s.2,r.id)) s).1.length ≤ s.1.length + 100 * O.length:=by
   intro O
   induction O with
   | nil=>intro s;simp
   | cons r O ih =>
     intro s
     have h1:=ih (s.1 ++ zCf r s.2,r.id)
     have h2:=zIU r s.2
     rw [List.foldl_cons]
     simp only [List.length_append,List.length_cons] at h1 ⊢
     omega
 intro O
 have:=key O ([],-1)
 simpa [zCg] using this
def zFW (l:List zX) (k:Nat):Nat:=zA0 (l.getD k default) (zCg (l.take k)).2
def zB8 (l:List zX):Nat → Nat
 | 0=>0
 | j + 1=>if zB8 l j ≠ 0 then zB8 l j else zFW l j
def zCb (l:List zX):Nat:=zB8 l l.length
theorem zQN {l:List zX} {j:Nat} (h:zB8 l j = 0) (h2:zFW l j = 0):zB8 l (j + 1) = 0:=by unfold zB8;rw [if_neg (by omega),h2]
theorem zOz {l:List zX} {j:Nat} (h:zB8 l j = 0):zB8 l (j + 1) = zFW l j:=by unfold zB8;rw [if_neg (by omega)]
theorem zIW {l:List zX} {j e:Nat} (h:zB8 l j = e) (he:e ≠ 0):∀ k,zB8 l (j + k) = e
 | 0=>h
 | k + 1=>by
   have:=zIW h he k
   show (if zB8 l (j + k) ≠ 0 then zB8 l (j + k) else zFW l (j + k)) = e
   rw [if_pos (by omega),this]
theorem zG1 {l:List zX} {j:Nat} (hj:j < l.length) (h:zB8 l j = 0) (he:zFW l j ≠ 0):zCb l = zFW l j:=by
 have:=zIW (zOz h) he (l.length - (j + 1))
 rwa [show j + 1 + (l.length - (j + 1)) = l.length by omega] at this
theorem zGv {l:List zX} {j:Nat} (h:zB8 l j = 0):∀ k,k < j → zFW l k = 0:=by
 induction j with
 | zero=>intro k hk;omega
 | succ j ih =>
   unfold zB8 at h
   split at h
   · omega
   · intro k hk
     by_cases e:k = j
     · subst e;exact h
     · exact ih (by omega) k (by omega)
theorem zNE {l:List zX} {j:Nat} (hj:j ≤ l.length) (h:zB8 l j = 0) : -1 ≤ (zCg (l.take j)).2 ∧ (zCg (l.take j)).2 ≤ 65535:=by
 cases j with
 | zero=>exact ⟨(show -1 ≤ (-1:Int) by decide),(show (-1:Int) ≤ 65535 by decide)⟩
 | succ j =>
   have h1:=zC6 (zGv h j (by omega))
   rw [zCm (by omega)]
   dsimp only
   omega
def zFC (t tm b:Int) (m:Nat):Nat:=if t < 0 ∨ 4294967295 < t ∨ tm < -2305843009213693952 ∨ 2305843009213693952 < tm ∨ b < -1 then 3 else if t ≤ b then 10 else if 128 < m then 8 else 0
def zHO (t b:Int):BitVec 64:=if 0 ≤ b then BitVec.ofInt 64 (t - b) else 0#64
def zBB (t tm b:Int) (m:Nat):List zP:=[71#8,1#8] ++ zCQ (BitVec.ofInt 64 t).toNat ++ zCQ (zGf tm).toNat ++ zCQ (zHO t b).toNat ++ zCQ (BitVec.ofInt 64 (m:Int)).toNat
def zBg (t tm b:Int) (m:Nat):List zP:=if zFC t tm b m ≠ 0 then [] else zBB t tm b m
def zAV (t tm b:Int) (l:List zX):Nat:=if zFC t tm b l.length ≠ 0 then zFC t tm b l.length else zCb l
def zDa (t tm b:Int) (l:List zX):List zP:=if zAV t tm b l ≠ 0 then [] else zBB t tm b l.length ++ (zCg l).1
def zFi (t tm b:Int) (l:List zX):Nat:=if zAV t tm b l ≠ 0 then zAV t tm b l else if 4092 < (zDa t tm b l).length then 8 else 0
def gwB (t tm b:Int) (l:List zX):List zP:=if zFi t tm b l ≠ 0 then [] else zG4 (zDa t tm b l)
theorem zGU (t tm b:Int) (m:Nat):(zBB t tm b m).length ≤ 42:=by
 have h1:=zEX (BitVec.ofInt 64 t).toNat
 have h2:=zEX (zGf tm).toNat
 have h3:=zEX (zHO t b).toNat
 have h4:=zEX (BitVec.ofInt 64 (m:Int)).toNat
 unfold zBB
 simp only [List.length_append,List.length_cons,List.length_nil]
 omega
theorem zDg {t tm b:Int} {m:Nat} (h:t < 0 ∨ 4294967295 < t ∨ tm < -2305843009213693952 ∨ 2305843009213693952 < tm ∨ b < -1):zFC t tm b m = 3:=by unfold zFC;rw [if_pos h]
theorem zCH {t tm b:Int} {m:Nat} (h:¬ (t < 0 ∨ 4294967295 < t ∨ tm < -2305843009213693952 ∨ 2305843009213693952 < tm ∨ b < -1)) (h2:t ≤ b):zFC t tm b m = 10:=by unfold zFC;rw [if_neg h,if_pos h2]
theorem zDk {t tm b:Int} {m:Nat} (h:¬ (t < 0 ∨ 4294967295 < t ∨ tm < -2305843009213693952 ∨ 2305843009213693952 < tm ∨ b < -1)) (h2:¬ t ≤ b) (h3:128 < m):zFC t tm b m = 8:=by unfold zFC;rw [if_neg h,if_neg h2,if_pos h3]
theorem zHL {t tm b:Int} {m:Nat} (h:¬ (t < 0 ∨ 4294967295 < t ∨ tm < -2305843009213693952 ∨ 2305843009213693952 < tm ∨ b < -1)) (h2:¬ t ≤ b) (h3:¬ 128 < m):zFC t tm b m = 0:=by unfold zFC;rw [if_neg h,if_neg h2,if_neg h3]
theorem zFL {t tm b:Int} {m:Nat} (h:zFC t tm b m = 0):0 ≤ t ∧ t ≤ 4294967295 ∧ -2305843009213693952 ≤ tm ∧ tm ≤ 2305843009213693952 ∧ -1 ≤ b ∧ b < t ∧ m ≤ 128:=by
 unfold zFC at h
 split at h
 · cases h
 · split at h
   · cases h
   · split at h
     · cases h
     · omega
theorem zCA {t tm b:Int} {l:List zX} (h:zFC t tm b l.length ≠ 0):zAV t tm b l = zFC t tm b l.length:=by unfold zAV;rw [if_pos h]
theorem zCD {t tm b:Int} {l:List zX} (h:zFC t tm b l.length = 0):zAV t tm b l = zCb l:=by unfold zAV;rw [if_neg (by omega)]
theorem zF6 {t tm b:Int} {l:List zX} (h:zAV t tm b l ≠ 0):zDa t tm b l = []:=by unfold zDa;rw [if_pos h]
theorem zJ3 {t tm b:Int} {l:List zX} (h:zAV t tm b l = 0):zDa t tm b l = zBB t tm b l.length ++ (zCg l).1:=by unfold zDa;rw [if_neg (by omega)]
theorem zC7 {t tm b:Int} {l:List zX} (h:zAV t tm b l = 0):zFC t tm b l.length = 0 ∧ zCb l = 0:=by
 unfold zAV at h
 split at h
 · omega
 · exact ⟨by omega,h⟩
theorem zHI (t tm b:Int) (l:List zX):(zDa t tm b l).length ≤ 12842:=by
 unfold zDa
 split
 · simp
 · rename_i h
   have h1:=zFL (zC7 (by omega:zAV t tm b l = 0)).1
   have h2:=zGU t tm b l.length
   have h3:=zOG l
   simp only [List.length_append]
   omega
theorem zFA (t tm b:Int) (l:List zX):(gwB t tm b l).length ≤ 4096:=by
 unfold gwB
 split
 · simp
 · rename_i h
   have h1:zFi t tm b l = 0:=by omega
   unfold zFi at h1
   rw [zEC]
   split at h1
   · omega
   · split at h1
     · cases h1
     · omega
end Go.Sx

set_option linter.unusedVariables false
set_option linter.unusedSimpArgs false
namespace Go.Sx
/-! ### What the laws need -/
theorem zM3 {t tm b:Int} {l:List zX} (h:zFi t tm b l = 0):zAV t tm b l = 0 ∧ (zDa t tm b l).length ≤ 4092:=by
 unfold zFi at h
 split at h
 · omega
 · split at h
   · cases h
   · omega
theorem zTb {t tm b:Int} {l:List zX} (h:zFi t tm b l = 0):gwB t tm b l = zG4 (zDa t tm b l):=by unfold gwB;rw [if_neg (by omega)]
theorem zXi {t tm b:Int} {l:List zX} (h:zFi t tm b l = 0):zCo (gwB t tm b l) = some (zDa t tm b l):=by rw [zTb h];exact zK1 _
end Go.Sx

set_option linter.unusedVariables false
set_option linter.unusedSimpArgs false
namespace Go.Sx
def zEd (c:zP) (bs:List zP) (R:Rs):Rs:=if (zG bs R).1.toNat = c.toNat then (zG bs R).2 else zBi 7 (zG bs R).2
def zKy (bs:List zP) (R:Rs):Rs:=zEd 1#8 bs (zEd 71#8 bs R)
def gT (bs:List zP) (R:Rs):Int × Rs:=((((zN bs 4294967295#64 R).1.toNat:Nat):Int),(zN bs 4294967295#64 R).2)
def gTm (bs:List zP) (R:Rs):Int × Rs:=((zAB bs R).1,if -2305843009213693952 ≤ (zAB bs R).1 ∧ (zAB bs R).1 ≤ 2305843009213693952 then (zAB bs R).2 else zBi 3 (zAB bs R).2)
def gB (bs:List zP) (t:Int) (R:Rs):Int × Rs:=(if 0 < (zN bs (BitVec.ofInt 64 t) R).1.toNat then t - (((zN bs (BitVec.ofInt 64 t) R).1.toNat:Nat):Int) else -1,(zN bs (BitVec.ofInt 64 t) R).2)
def zNG (bs:List zP) (s:List zX × Int × Rs):List zX × Int × Rs :=
 if (zAH bs s.2.1 s.2.2).2.1 ≠ 0 then (s.1,s.2.1,(zAH bs s.2.1 s.2.2).2.2) else (s.1 ++ [(zAH bs s.2.1 s.2.2).1],(zAH bs s.2.1 s.2.2).1.id,(zAH bs s.2.1 s.2.2).2.2)
def zJr (bs:List zP) (s:List zX × Int × Rs):Nat → List zX × Int × Rs
 | 0=>s
 | i + 1=>if (zJr bs s i).2.2.e ≠ 0 then zJr bs s i else zNG bs (zJr bs s i)
def zV (bs:List zP) (R:Rs) (i:Nat):List zX × Int × Rs:=zJr bs ([],-1,(zN bs 128#64 R).2) i
def gN (bs:List zP) (R:Rs):Nat:=(zN bs 128#64 R).1.toNat
def gR1 (x:List zP):Rs:=zKy x ⟨0,0⟩
def gTx (x:List zP):Int × Rs:=gT x (gR1 x)
def zHM (x:List zP):Int × Rs:=gTm x (gTx x).2
def gBx (x:List zP):Int × Rs:=gB x (gTx x).1 (zHM x).2
def gSx (x:List zP):List zX × Int × Rs:=zV x (gBx x).2 (gN x (gBx x).2)
def gEx (x:List zP):Nat:=zI1 x (gSx x).2.2
structure zBx where
 t:Int
 tm:Int
 b:Int
 l:List zX
 e:Nat
def zA (bs:List zP):zBx :=
 if 4096 < bs.length then ⟨0,0,0,[],8⟩ else match zCo bs with
   | none=>⟨0,0,0,[],9⟩
   | some x=>if gEx x ≠ 0 then ⟨0,0,0,[],gEx x⟩ else ⟨(gTx x).1,(zHM x).1,(gBx x).1,(gSx x).1,0⟩
theorem zLl {X:BitVec 64} (h:X.toNat ≤ 9223372036854775807):X.toInt = ((X.toNat:Nat):Int):=by rw [BitVec.toInt_eq_toNat_cond,if_pos (by omega)]
theorem zLx (i:Nat):BitVec.ofNat 64 i + 1#64 = BitVec.ofNat 64 (i + 1):=by
 apply BitVec.eq_of_toNat_eq
 simp
theorem zHl {c:zP} {bs:List zP} {R:Rs} (h:R.p ≤ bs.length):(zEd c bs R).p ≤ bs.length ∧ R.p ≤ (zEd c bs R).p:=by
 have h1:=zEM h
 have h2:=zBU (e:=7) h1.1
 unfold zEd
 split <;> omega
theorem zK5 {bs:List zP} {R:Rs} (h:R.p ≤ bs.length):(zKy bs R).p ≤ bs.length:=(zHl (zHl h).1).1
theorem zbq {bs:List zP} {R:Rs} (h:R.p ≤ bs.length):(gT bs R).2.p ≤ bs.length ∧ 0 ≤ (gT bs R).1 ∧ (gT bs R).1 ≤ 4294967295:=by
 have h1:=zA1 (X:=4294967295#64) h
 have h2:(4294967295#64).toNat = 4294967295:=rfl
 unfold gT
 dsimp only
 omega
theorem zWw {bs:List zP} {R:Rs} (h:R.p ≤ bs.length):(gTm bs R).2.p ≤ bs.length ∧ -9223372036854775808 ≤ (gTm bs R).1 ∧ (gTm bs R).1 ≤ 9223372036854775807:=by
 have h1:=zDM h
 have h2:=zBU (e:=3) h1.1
 have h3 : -9223372036854775808 ≤ (zAB bs R).1 ∧ (zAB bs R).1 ≤ 9223372036854775807:=by unfold zAB;exact zF0 _
 unfold gTm
 dsimp only
 split <;> omega
theorem zbw {bs:List zP} {t:Int} {R:Rs} (h:R.p ≤ bs.length) (ht:0 ≤ t ∧ t ≤ 4294967295):(gB bs t R).2.p ≤ bs.length ∧ -1 ≤ (gB bs t R).1 ∧ (gB bs t R).1 ≤ 4294967295:=by
 have h1:=zA1 (X:=BitVec.ofInt 64 t) h
 have h2:=zEI (x:=t) (by omega) (by omega)
 unfold gB
 dsimp only
 split <;> omega
structure zWY (bs:List zP) (i:Nat) (s:List zX × Int × Rs):Prop where
 p:s.2.2.p ≤ bs.length
 lo : -1 ≤ s.2.1
 hi:s.2.1 ≤ 65535
 len:s.1.length ≤ i
theorem zR6 {bs:List zP} {last:Int} {R:Rs} (h : -1 ≤ last ∧ last ≤ 65535):(zAH bs last R).2.1 = (zAH bs last R).2.2.e:=by
 unfold zAH
 rw [if_neg (by omega)]
 split
 · rfl
 · split
   · rfl
   · rename_i h1
     exact (Decidable.not_not.1 h1).symm
theorem zV5 (bs:List zP) (last:Int) (R:Rs):(zEa bs last R).1.id = last + 1 + (((zP1 bs last R).1.toNat:Nat):Int):=by
 unfold zEa zA8 zCF zA3
 dsimp only
 (repeat' split) <;> rfl
theorem zVa {bs:List zP} {last:Int} {R:Rs} (hp:R.p ≤ bs.length) (h : -1 ≤ last ∧ last ≤ 65535) (h0:(zAH bs last R).2.1 = 0):last < (zAH bs last R).1.id ∧ (zAH bs last R).1.id ≤ 65535:=by
 unfold zAH at h0 ⊢
 rw [if_neg (by omega)] at h0 ⊢
 by_cases hl:last = 65535
 · rw [if_pos hl] at h0
   unfold zBi at h0
   split at h0
   · simp at h0
   · contradiction
 · rw [if_neg hl] at h0 ⊢
   split at h0
   · contradiction
   · rename_i h1
     rw [if_neg h1]
     dsimp only
     rw [zV5]
     have h2:=zA1 (X:=BitVec.ofInt 64 (65534 - last)) hp
     have h3:=zEI (x:=65534 - last) (by omega) (by omega)
     unfold zP1
     omega
theorem zSM {bs:List zP} {i:Nat} {s:List zX × Int × Rs} (h:zWY bs i s):zWY bs (i + 1) (zNG bs s):=by
 have hp:=zOg (last:=s.2.1) h.p
 have hl:=h.len
 unfold zNG
 split
 · exact ⟨hp.1,h.lo,h.hi,by dsimp only;omega⟩
 · rename_i h0
   have hi:=zVa h.p ⟨h.lo,h.hi⟩ (by omega)
   have hlo:=h.lo
   refine ⟨hp.1,by dsimp only;omega,by dsimp only;omega,by simp only [List.length_append,List.length_singleton];omega⟩
theorem zJ0 {bs:List zP} {s:List zX × Int × Rs} (h:zWY bs 0 s):∀ i,zWY bs i (zJr bs s i)
 | 0=>h
 | i + 1=>by
   unfold zJr
   have h1:=zJ0 h i
   split
   · exact ⟨h1.p,h1.lo,h1.hi,Nat.le_succ_of_le h1.len⟩
   · exact zSM h1
theorem zWT {bs:List zP} {R:Rs} (hR:R.p ≤ bs.length):zWY bs 0 ([],-1,(zN bs 128#64 R).2):=⟨(zA1 hR).1,Int.le_refl _,by show (-1:Int) ≤ 65535;decide,Nat.le_refl 0⟩
theorem zCn {bs:List zP} {R:Rs} (hR:R.p ≤ bs.length) (i:Nat):zWY bs i (zV bs R i):=zJ0 (zWT hR) i
theorem zLt {bs:List zP} {s:List zX × Int × Rs} {i:Nat} (h:(zJr bs s i).2.2.e ≠ 0):∀ k,zJr bs s (i + k) = zJr bs s i
 | 0=>rfl
 | k + 1=>by
   have h1:=zLt h k
   show (if (zJr bs s (i + k)).2.2.e ≠ 0 then zJr bs s (i + k) else _) = _
   rw [h1,if_pos h]
theorem zXx (bs:List zP) (R:Rs):gN bs R ≤ 128:=by
 have h2:(128#64).toNat = 128:=rfl
 unfold gN zN
 split
 · exact Nat.zero_le _
 · split
   · exact Nat.zero_le _
   · split
     · exact Nat.zero_le _
     · rename_i h
       have h1:=(zMv (Decidable.not_not.1 h)).2
       dsimp only
       omega
theorem zUL {bs:List zP} {R:Rs}:gN bs R ≤ 0 ∨ (zV bs R 0).2.2.e = 0:=by
 show (zN bs 128#64 R).1.toNat ≤ 0 ∨ (zN bs 128#64 R).2.e = 0
 unfold zN
 (repeat' split) <;> first | exact .inl (Nat.le_refl 0) | exact .inr rfl
theorem zKm {bs:List zP} {R:Rs} {i:Nat} (h:(zV bs R i).2.2.e = 0) (h0:(zAH bs (zV bs R i).2.1 (zV bs R i).2.2).2.1 = 0):zV bs R (i + 1) = ((zV bs R i).1 ++ [(zAH bs (zV bs R i).2.1 (zV bs R i).2.2).1],(zAH bs (zV bs R i).2.1 (zV bs R i).2.2).1.id,(zAH bs (zV bs R i).2.1 (zV bs R i).2.2).2.2):=by
 show zJr _ _ (i + 1) = _
 unfold zJr
 rw [if_neg (by unfold zV at h;omega)]
 unfold zNG
 rw [if_neg (by unfold zV at h0;omega)]
 rfl
theorem zPi {bs:List zP} {R:Rs} {i:Nat} (hR:R.p ≤ bs.length) (h:(zV bs R i).2.2.e = 0) (h0:(zAH bs (zV bs R i).2.1 (zV bs R i).2.2).2.1 = 0):(zV bs R (i + 1)).2.2.e = 0:=by
 have hi:=zCn hR i
 rw [zKm h h0,← h0]
 exact (zR6 ⟨hi.lo,hi.hi⟩).symm
theorem zRZ {bs:List zP} {R:Rs} {i:Nat} (hR:R.p ≤ bs.length) (hi:i < gN bs R) (h:(zV bs R i).2.2.e = 0) (h0:(zAH bs (zV bs R i).2.1 (zV bs R i).2.2).2.1 ≠ 0):zV bs R (gN bs R) = ((zV bs R i).1,(zV bs R i).2.1,(zAH bs (zV bs R i).2.1 (zV bs R i).2.2).2.2):=by
 have hv:=zCn hR i
 have h1:zV bs R (i + 1) = ((zV bs R i).1,(zV bs R i).2.1,(zAH bs (zV bs R i).2.1 (zV bs R i).2.2).2.2):=by
   show zJr _ _ (i + 1) = _
   unfold zJr
   rw [if_neg (by unfold zV at h;omega)]
   unfold zNG
   rw [if_pos (by unfold zV at h0;omega)]
   rfl
 have h2:=zR6 (bs:=bs) (R:=(zV bs R i).2.2) ⟨hv.lo,hv.hi⟩
 have h3:=zLt (bs:=bs) (s:=([],-1,(zN bs 128#64 R).2)) (i:=i + 1) (by
   show (zV bs R (i + 1)).2.2.e ≠ 0
   rw [h1]
   dsimp only
   omega) (gN bs R - (i + 1))
 rw [show i + 1 + (gN bs R - (i + 1)) = gN bs R by omega] at h3
 exact h3.trans h1
theorem zJc {bs:List zP} (h:4096 < bs.length):zA bs = ⟨0,0,0,[],8⟩:=by unfold zA;rw [if_pos h]
theorem zJg {bs:List zP} (h:¬ 4096 < bs.length) (ho:zCo bs = none):zA bs = ⟨0,0,0,[],9⟩:=by unfold zA;rw [if_neg h,ho]
theorem zME {bs x:List zP} (h:¬ 4096 < bs.length) (ho:zCo bs = some x) (he:gEx x ≠ 0):zA bs = ⟨0,0,0,[],gEx x⟩:=by
 unfold zA
 rw [if_neg h,ho]
 dsimp only
 rw [if_pos he]
theorem zKP {bs x:List zP} (h:¬ 4096 < bs.length) (ho:zCo bs = some x) (he:gEx x = 0):zA bs = ⟨(gTx x).1,(zHM x).1,(gBx x).1,(gSx x).1,0⟩:=by
 unfold zA
 rw [if_neg h,ho]
 dsimp only
 rw [if_neg (by omega)]
theorem zW6 (x:List zP):(gR1 x).p ≤ x.length:=zK5 (Nat.zero_le _)
theorem zOr (x:List zP):(gTx x).2.p ≤ x.length ∧ 0 ≤ (gTx x).1 ∧ (gTx x).1 ≤ 4294967295:=zbq (zW6 x)
theorem zNO (x:List zP):(zHM x).2.p ≤ x.length ∧ -9223372036854775808 ≤ (zHM x).1 ∧ (zHM x).1 ≤ 9223372036854775807:=zWw (zOr x).1
theorem zLj (x:List zP):(gBx x).2.p ≤ x.length ∧ -1 ≤ (gBx x).1 ∧ (gBx x).1 ≤ 4294967295:=zbw (zNO x).1 (zOr x).2
theorem zQj (x:List zP):(gSx x).1.length ≤ 128:=by unfold gSx;exact Nat.le_trans (zCn (zLj x).1 _).len (zXx _ _)
theorem zGn (x:List zP):zV x (gBx x).2 (gN x (gBx x).2) = gSx x:=rfl
theorem zQg (x:List zP):zI1 x (gSx x).2.2 = gEx x:=rfl
theorem zcf (x:List zP):(gSx x).2.2.p ≤ x.length:=by rw [← zGn];exact (zCn (zLj x).1 _).p
theorem zHm (bs:List zP):(zA bs).l.length ≤ 128 ∧ 0 ≤ (zA bs).t ∧ (zA bs).t ≤ 4294967295 ∧ -9223372036854775808 ≤ (zA bs).tm ∧ (zA bs).tm ≤ 9223372036854775807 ∧ -1 ≤ (zA bs).b ∧ (zA bs).b ≤ 4294967295:=by
 unfold zA
 split
 · simp
 · split
   · simp
   · rename_i x _
     have h1:=zOr x
     have h2:=zNO x
     have h3:=zLj x
     have h4:=zQj x
     split
     · simp
     · dsimp only
       omega
theorem zbm (x:List zP):zEd 1#8 x (zEd 71#8 x ⟨0,0⟩) = gR1 x:=rfl
theorem zbQ (x:List zP):gTx x = ((((zN x 4294967295#64 (gR1 x)).1.toNat:Nat):Int),(zN x 4294967295#64 (gR1 x)).2):=rfl
theorem zZs {x:List zP} (h : -2305843009213693952 ≤ (zAB x (gTx x).2).1 ∧ (zAB x (gTx x).2).1 ≤ 2305843009213693952):zHM x = ((zAB x (gTx x).2).1,(zAB x (gTx x).2).2):=by unfold zHM gTm;rw [if_pos h]
theorem zX2 {x:List zP} (h:0 < (zN x (BitVec.ofInt 64 (gTx x).1) (zHM x).2).1.toNat):gBx x = ((gTx x).1 - (((zN x (BitVec.ofInt 64 (gTx x).1) (zHM x).2).1.toNat:Nat):Int),(zN x (BitVec.ofInt 64 (gTx x).1) (zHM x).2).2):=by unfold gBx gB;rw [if_pos h]
theorem zYh {x:List zP} (h:¬ 0 < (zN x (BitVec.ofInt 64 (gTx x).1) (zHM x).2).1.toNat):gBx x = (-1,(zN x (BitVec.ofInt 64 (gTx x).1) (zHM x).2).2):=by unfold gBx gB;rw [if_neg h]
end Go.Sx

set_option linter.unusedVariables false
set_option linter.unusedSimpArgs false
namespace Go.Sx
theorem zS2 {bs:List zP} {s:List zX × Int × Rs} (h:zWY bs 0 s) (hw:∀ r ∈ s.1,r.wf):∀ i,∀ r ∈ (zJr bs s i).1,r.wf
 | 0=>hw
 | i + 1=>by
   have h1:=zJ0 h i
   have h2:=zS2 h hw i
   unfold zJr
   split
   · exact h2
   · unfold zNG
     split
     · exact h2
     · intro r hr
       rcases List.mem_append.1 hr with hr | hr
       · exact h2 r hr
       · rw [List.mem_singleton.1 hr];exact zUA h1.p
theorem zab (x:List zP):∀ r ∈ (gSx x).1,r.wf:=by
 rw [← zGn]
 unfold zV
 exact zS2 (zWT (zLj x).1) (fun r hr=>by cases hr) _
theorem zKq (bs:List zP):∀ r ∈ (zA bs).l,r.wf:=by
 unfold zA
 split
 · simp
 · split
   · simp
   · split
     · simp
     · dsimp only;exact zab _
end Go.Sx

set_option linter.unusedVariables false
set_option linter.unusedSimpArgs false
namespace Go.Sx
theorem zDX.full {α:Type} {bs c rest:List zP} {f:Rs → α × Rs} {v:α} {p:Nat} (h:zDX bs c f v) (hp:p ≤ bs.length) (hd:bs.drop p = c ++ rest):f ⟨p,0⟩ = (v,⟨p + c.length,0⟩) ∧ bs.drop (p + c.length) = rest ∧ p + c.length ≤ bs.length:=by
 have hd':bs.drop p = (c ++ rest).take (c ++ rest).length:=by rw [List.take_length];exact hd
 have h2:=zMz hd' (by simp) hp
 exact ⟨h.good ⟨p,0⟩ _ rest rfl hp hd' (by simp),by rw [h2.1,List.length_append,Nat.add_sub_cancel_left,List.take_length],h2.2⟩
theorem zLA {bs rest:List zP} {c:zP} {p:Nat} (hp:p ≤ bs.length) (hd:bs.drop p = [c] ++ rest):zEd c bs ⟨p,0⟩ = ⟨p + 1,0⟩ ∧ bs.drop (p + 1) = rest ∧ p + 1 ≤ bs.length:=by
 obtain ⟨h1,h2,h3⟩:=(zGu (bs:=bs) (c:=c)).full hp hd
 refine ⟨?_,h2,h3⟩
 unfold zEd
 rw [h1,if_pos rfl]
 rfl
theorem zMB {bs : List zP} {l : List zX} {R : Rs} {p : Nat} (hl : ∀ x ∈ l, x.wf) (he : zCb l = 0) (h0 : (zN bs 128#64 R).2 = ⟨p, 0⟩) (hp : p ≤ bs.length) (hR : R.p ≤ bs.length) {tail : List zP} (hd : bs.drop p = (zCg l).1 ++ tail) :
   ∀ i,i ≤ l.length → zV bs R i = (l.take i,(zCg (l.take i)).2,⟨p + (zCg (l.take i)).1.length,0⟩)
 | 0,_=>by
   show ([],(-1:Int),(zN bs 128#64 R).2) = _
   rw [h0]
   rfl
 | i + 1,hi=>by
   have ih:=zMB hl he h0 hp hR hd i (by omega)
   obtain ⟨rest,hs⟩:=zPO (O:=l) (i + 1)
   rw [zCm (by omega)] at hs
   have hds:=hd
   rw [hs,List.append_assoc,List.append_assoc] at hds
   have hlen:=congrArg List.length hds
   simp only [List.length_drop,List.length_append] at hlen
   have h1:bs.drop (p + (zCg (l.take i)).1.length) = zCf (l.getD i default) (zCg (l.take i)).2 ++ (rest ++ tail):=by
     rw [← List.drop_drop,hds,List.drop_left]
   have hq:=zYz (bs:=bs) (last:=(zCg (l.take i)).2) (zMC hl (by omega)) (zGv he i (by omega)) (by omega) h1
   rw [zKm (by rw [ih]) (by rw [ih];dsimp only;rw [hq]),ih]
   dsimp only
   rw [hq,zCm (by omega),zIT (by omega)]
   dsimp only
   rw [List.length_append,Nat.add_assoc]
theorem zPf {t tm b:Int} {l:List zX} {x tail:List zP} (hl:∀ x ∈ l,x.wf) (hb:zAV t tm b l = 0) (hx0:x = zDa t tm b l ++ tail):(gTx x).1 = t ∧ (zHM x).1 = tm ∧ (gBx x).1 = b ∧ (gSx x).1 = l ∧ gEx x = if tail = [] then 0 else 8:=by
 obtain ⟨hg,hr⟩:=zC7 hb
 obtain ⟨g1,g2,g3,g4,g5,g6,g7⟩:=zFL hg
 have hx:x = [71#8] ++ ([1#8] ++ (zCQ (BitVec.ofInt 64 t).toNat ++ (zDZ tm ++ (zCQ (zHO t b).toNat ++ (zCQ (BitVec.ofInt 64 (l.length:Int)).toNat ++ ((zCg l).1 ++ tail)))))):=by
   rw [hx0,zJ3 hb,zBB,zDZ]
   simp only [List.append_assoc,List.cons_append,List.nil_append]
 have ht:=zEI (x:=t) (by omega) (by omega)
 have hm:=zEI (x:=(l.length:Int)) (by omega) (by omega)
 have hbk:((zHO t b).toNat:Int) = if 0 ≤ b then t - b else 0:=by
   unfold zHO
   split
   · exact zEI (by omega) (by omega)
   · rfl
 obtain ⟨a1,a2,a3⟩:=zLA (bs:=x) (p:=0) (Nat.zero_le _) (by rw [List.drop_zero];exact hx)
 obtain ⟨b1,b2,b3⟩:=zLA a3 a2
 have e1:gR1 x = ⟨0 + 1 + 1,0⟩:=by rw [← zbm,a1,b1]
 obtain ⟨c1,c2,c3⟩:=(zCZ (bs:=x) (L:=4294967295#64) (X:=BitVec.ofInt 64 t) (by show _ ≤ 4294967295;omega)).full b3 b2
 have e2:gTx x = (t,⟨0 + 1 + 1 + (zCQ (BitVec.ofInt 64 t).toNat).length,0⟩):=by rw [zbQ,e1,c1,ht]
 obtain ⟨d1,d2,d3⟩:=(zCu (bs:=x) (x:=tm) (by omega)).full c3 c2
 generalize hp2:0 + 1 + 1 + (zCQ (BitVec.ofInt 64 t).toNat).length = p2 at *
 have e3:zHM x = (tm,⟨p2 + (zDZ tm).length,0⟩):=by
   have q:zAB x (gTx x).2 = (tm,⟨p2 + (zDZ tm).length,0⟩):=by rw [e2];exact d1
   rw [zZs (by rw [q];dsimp only;omega),q]
 generalize hp3:p2 + (zDZ tm).length = p3 at *
 obtain ⟨f1,f2,f3⟩:=(zCZ (bs:=x) (L:=BitVec.ofInt 64 t) (X:=zHO t b) (by split at hbk <;> omega)).full d3 d2
 generalize hp4:p3 + (zCQ (zHO t b).toNat).length = p4 at *
 have e4:gBx x = (b,⟨p4,0⟩):=by
   have q:zN x (BitVec.ofInt 64 (gTx x).1) (zHM x).2 = (zHO t b,⟨p4,0⟩):=by rw [e2,e3];exact f1
   by_cases hb0:0 ≤ b
   · rw [if_pos hb0] at hbk
     rw [zX2 (by rw [q];dsimp only;omega),q,e2]
     dsimp only
     rw [hbk,show t - (t - b) = b by omega]
   · rw [if_neg hb0] at hbk
     rw [zYh (by rw [q];dsimp only;omega),q]
     dsimp only
     rw [show b = -1 by omega]
 obtain ⟨k1,k2,k3⟩:=(zCZ (bs:=x) (L:=128#64) (X:=BitVec.ofInt 64 (l.length:Int)) (by show _ ≤ 128;omega)).full f3 f2
 have hn:gN x (gBx x).2 = l.length:=by
   unfold gN
   rw [e4]
   dsimp only
   rw [k1]
   dsimp only
   omega
 have hrec:=zMB (R:=(gBx x).2) hl hr (by rw [e4];dsimp only;rw [k1]) k3 (by rw [e4];exact f3) k2 l.length (Nat.le_refl _)
 rw [List.take_length] at hrec
 have hS:gSx x = (l,(zCg l).2,⟨p4 + (zCQ (BitVec.ofInt 64 (l.length:Int)).toNat).length + (zCg l).1.length,0⟩):=by rw [← zGn,hn,hrec]
 have hlen:=congrArg List.length k2
 rw [List.length_drop,List.length_append] at hlen
 have hE:gEx x = if tail = [] then 0 else 8:=by
   rw [← zQg,hS]
   unfold zI1
   cases tail with
   | nil =>
     rw [List.length_nil] at hlen
     rw [if_pos (.inr (by dsimp only;omega)),if_pos rfl]
   | cons c tl =>
     rw [List.length_cons] at hlen
     rw [if_neg (by dsimp only;omega),if_neg (by simp)]
 exact ⟨by rw [e2],by rw [e3],by rw [e4],by rw [hS],hE⟩
theorem zFe {t tm b:Int} {l:List zX} (hl:∀ x ∈ l,x.wf) (h:zFi t tm b l = 0):zA (gwB t tm b l) = ⟨t,tm,b,l,0⟩:=by
 have hw:=zFA t tm b l
 obtain ⟨h1,h2,h3,h4,h5⟩:=zPf (x:=zDa t tm b l) (tail:=[]) hl (zM3 h).1 (by rw [List.append_nil])
 rw [zKP (by omega) (zXi h) (by rw [h5];rfl),h1,h2,h3,h4]
end Go.Sx

set_option linter.unusedVariables false
set_option linter.unusedSimpArgs false
namespace Go.Sx
theorem zba {cs:List Value} (h:zDc cs [.i .i64,.i .i64,.i .i64,.i .i64,.i .i64,.i .i64,.i .i64,.i .i64,.i .u16]):∃ r:zX,cs = zDq r ∧ r.wf:=by
 obtain ⟨_,_,rfl,h1,h⟩:=h.split
 obtain ⟨_,_,rfl,h2,h⟩:=h.split
 obtain ⟨_,_,rfl,h3,h⟩:=h.split
 obtain ⟨_,_,rfl,h4,h⟩:=h.split
 obtain ⟨_,_,rfl,h5,h⟩:=h.split
 obtain ⟨_,_,rfl,h6,h⟩:=h.split
 obtain ⟨_,_,rfl,h7,h⟩:=h.split
 obtain ⟨_,_,rfl,h8,h⟩:=h.split
 obtain ⟨_,_,rfl,h9,h⟩:=h.split
 obtain rfl:=h.none
 obtain ⟨z1,rfl,w1⟩:=h1.i64
 obtain ⟨z2,rfl,w2⟩:=h2.i64
 obtain ⟨z3,rfl,w3⟩:=h3.i64
 obtain ⟨z4,rfl,w4⟩:=h4.i64
 obtain ⟨z5,rfl,w5⟩:=h5.i64
 obtain ⟨z6,rfl,w6⟩:=h6.i64
 obtain ⟨z7,rfl,w7⟩:=h7.i64
 obtain ⟨z8,rfl,w8⟩:=h8.i64
 obtain ⟨z9,rfl⟩:=h9.u16
 exact ⟨⟨z1,z2,z3,z4,z5,z6,z7,z8,z9⟩,rfl,⟨w1,w2,w3,w4,w5,w6,w7,w8⟩⟩
theorem zNx {α:Type} {f:Nat → List Value} {g:α → List Value} {p:α → Prop}:∀ (n:Nat),(∀ i,i < n → ∃ a:α,f i = g a ∧ p a) → ∃ l:List α,l.length = n ∧ (List.range n).flatMap f = l.flatMap g ∧ ∀ x ∈ l,p x
 | 0,_=>⟨[],rfl,rfl,by simp⟩
 | n + 1,h=>by
   obtain ⟨l,hl,he,hp⟩:=zNx n fun i hi=>h i (by omega)
   obtain ⟨a,ha,hpa⟩:=h n (by omega)
   refine ⟨l ++ [a],by simp [hl],by rw [List.range_succ,List.flatMap_append,List.flatMap_append,he];simp [ha],fun x hx=>?_⟩
   rcases List.mem_append.1 hx with hx | hx
   · exact hp x hx
   · rw [List.mem_singleton] at hx;subst hx;exact hpa
/-! ### A row of records -/
/-! ### Sizes -/
end Go.Sx
