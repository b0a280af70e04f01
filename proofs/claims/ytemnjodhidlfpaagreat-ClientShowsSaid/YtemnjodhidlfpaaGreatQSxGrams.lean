import Derived.Test.YtemnjodhidlfpaaGreatQSxBasA
import Derived.Test.YtemnjodhidlfpaaGreatQSxRecs
import Derived.Test.YtemnjodhidlfpaaGreatQSxBasB
/- Texts of the small logic, one behind the other: SxPcrc, SxPgram, SxRgram, SxPgramR, SxPgramK, SxPgramF, SxRrec. -/
set_option linter.unusedVariables false
set_option linter.unusedSimpArgs false
namespace Go.Sx

def zXu (s:BitVec 32):BitVec 32:=(s >>> 1) ^^^ (3988292384#32 &&& -(s &&& 1#32))
def zJa : Nat → BitVec 32 → BitVec 32
 | 0,s=>s
 | k + 1,s=>zXu (zJa k s)
def zRw (s:BitVec 32) (c:zQ):BitVec 32:=zJa 8 (s ^^^ c.setWidth 32)
def zL9 (s:BitVec 32) (bs:List zQ):BitVec 32:=bs.foldl zRw s
def zLu (s:BitVec 32) (bs:List zQ):BitVec 32 := ~~~(zL9 (~~~s) bs)
def zCQ (bs:List zQ):BitVec 32:=zLu 0#32 bs
theorem zOu (s:BitVec 32) (bs:List zQ) (k:Nat) (h:k < bs.length):zL9 s (bs.take (k + 1)) = zRw (zL9 s (bs.take k)) (bs.getD k 0):=by
 unfold zL9
 rw [List.take_succ_eq_append_getElem h,List.foldl_append]
 simp [List.getD_eq_getElem?_getD,h]
def be4 (s:BitVec 32):List zQ:=[(s >>> 24).setWidth 8,(s >>> 16).setWidth 8,(s >>> 8).setWidth 8,s.setWidth 8]
def zGU (bs:List zQ):List zQ:=bs ++ be4 (zCQ bs)
theorem zD3 (bs:List zQ):(zGU bs).length = bs.length + 4:=by simp [zGU,be4]
def beN (bs:List zQ):BitVec 32:=bs.foldl (fun s c=>(s <<< 8) ||| c.setWidth 32) 0#32
theorem zT3 (bs:List zQ) (k:Nat) (h:k < bs.length):beN (bs.take (k + 1)) = (beN (bs.take k) <<< 8) ||| (bs.getD k 0).setWidth 32:=by
 unfold beN
 rw [List.take_succ_eq_append_getElem h,List.foldl_append]
 simp [List.getD_eq_getElem?_getD,h]
theorem zaS (s:BitVec 32) (c:zQ) (h:s.toNat < 2 ^ 24):((s <<< 8) ||| c.setWidth 32).toNat = s.toNat * 256 + c.toNat:=by
 have hc:=c.isLt
 rw [BitVec.toNat_or,BitVec.toNat_shiftLeft,BitVec.toNat_setWidth,Nat.shiftLeft_eq,Nat.mod_eq_of_lt (by omega),Nat.mod_eq_of_lt (by omega)]
 rw [Nat.mul_comm,← Nat.two_pow_add_eq_or_of_lt hc]
theorem zbG (a b c d:zQ):(beN [a,b,c,d]).toNat = a.toNat * 16777216 + b.toNat * 65536 + c.toNat * 256 + d.toNat:=by
 simp only [beN,List.foldl_cons,List.foldl_nil]
 have ha:=a.isLt
 have hb:=b.isLt
 have hc:=c.isLt
 have hd:=d.isLt
 have h0:(0#32:BitVec 32).toNat = 0:=rfl
 have h1:=zaS 0#32 a (by omega)
 have h2:=zaS _ b (by rw [h1];omega)
 have h3:=zaS _ c (by rw [h2,h1];omega)
 have h4:=zaS _ d (by rw [h3,h2,h1];omega)
 rw [h4,h3,h2,h1]
 omega
theorem zXF (s:BitVec 32):beN (be4 s) = s:=by
 apply BitVec.eq_of_toNat_eq
 have:=s.isLt
 rw [be4,zbG]
 simp only [BitVec.toNat_setWidth,BitVec.toNat_ushiftRight,Nat.shiftRight_eq_div_pow]
 omega
theorem zT4 (a b c d:zQ):be4 (beN [a,b,c,d]) = [a,b,c,d]:=by
 have h:=zbG a b c d
 have ha:=a.isLt
 have hb:=b.isLt
 have hc:=c.isLt
 have hd:=d.isLt
 simp only [be4,List.cons.injEq,and_true]
 refine ⟨?_,?_,?_,?_⟩ <;> apply BitVec.eq_of_toNat_eq <;> simp only [BitVec.toNat_setWidth,BitVec.toNat_ushiftRight,Nat.shiftRight_eq_div_pow,h] <;> omega
theorem zX7 : ∀ (l:List zQ),l.length = 4 → be4 (beN l) = l
 | [a,b,c,d],_=>zT4 a b c d
def zCe (bs:List zQ):Option (List zQ) :=
 if bs.length < 4 then none else if beN (bs.drop (bs.length - 4)) = zCQ (bs.take (bs.length - 4)) then some (bs.take (bs.length - 4)) else none
theorem zKk (bs:List zQ):zCe (zGU bs) = some bs:=by
 unfold zCe
 have hl:=zD3 bs
 rw [if_neg (by omega),hl,show bs.length + 4 - 4 = bs.length by omega]
 have h1:(zGU bs).drop bs.length = be4 (zCQ bs):=by simp [zGU]
 have h2:(zGU bs).take bs.length = bs:=by simp [zGU]
 rw [h1,h2,zXF,if_pos rfl]
theorem zRi (bs x:List zQ):zCe bs = some x ↔ bs = zGU x:=by
 constructor
 · intro h
   unfold zCe at h
   split at h
   · cases h
   · rename_i hl
     split at h
     · rename_i he
       injection h with h
       subst h
       unfold zGU
       rw [← he,zX7 _ (by simp;omega),List.take_append_drop]
     · cases h
 · rintro rfl
   exact zKk x
/-! ### No two sums alike -/
end Go.Sx
namespace Go.Sx
/-! ### What the laws ask -/
end Go.Sx

set_option linter.unusedVariables false
set_option linter.unusedSimpArgs false
namespace Go.Sx
theorem zHB (r:zAC):(zKH r).length = 9:=rfl
theorem zIL {α:Type} [Inhabited α] {l:List α} {j:Nat} (h:j < l.length):l.take (j + 1) = l.take j ++ [l.getD j default]:=by
 rw [List.take_add_one,List.getD_eq_getElem?_getD,List.getElem?_eq_getElem h]
 rfl
theorem zLJ {l:List zAC} (h:∀ x ∈ l,x.wf) {j:Nat} (hj:j < l.length):(l.getD j default).wf:=by
 rw [List.getD_eq_getElem?_getD,List.getElem?_eq_getElem hj]
 exact h _ (List.getElem_mem hj)
def zCZ (O:List zAC):List zQ × Int:=O.foldl (fun s r=>(s.1 ++ zCd r s.2,r.id)) ([],-1)
theorem zCq {O:List zAC} {k:Nat} (h:k < O.length):zCZ (O.take (k + 1)) = ((zCZ (O.take k)).1 ++ zCd (O.getD k default) (zCZ (O.take k)).2,(O.getD k default).id):=by
 unfold zCZ
 rw [zIL h,List.foldl_append]
 rfl
theorem zNh : ∀ (O:List zAC) (s:List zQ × Int),∃ rest,(O.foldl (fun s r=>(s.1 ++ zCd r s.2,r.id)) s).1 = s.1 ++ rest
 | [],s=>⟨[],by simp⟩
 | r :: O,s=>by
   obtain ⟨rest,h⟩:=zNh O (s.1 ++ zCd r s.2,r.id)
   exact ⟨zCd r s.2 ++ rest,by rw [List.foldl_cons,h];simp⟩
theorem zOm {O:List zAC} (k:Nat):∃ rest,(zCZ O).1 = (zCZ (O.take k)).1 ++ rest:=by
 have:zCZ O = (O.drop k).foldl (fun s r=>(s.1 ++ zCd r s.2,r.id)) (zCZ (O.take k)):=by
   unfold zCZ
   rw [← List.foldl_append,List.take_append_drop]
 rw [this]
 exact zNh _ _
theorem zMz : ∀ (O:List zAC),(zCZ O).1.length ≤ 100 * O.length:=by
 have key:∀ (O:List zAC) (s:List zQ × Int),(O.foldl (fun s r=>(s.1 ++ zCd r s.2,r.id)) s).1.length ≤ s.1.length + 100 * O.length:=by
   intro O
   induction O with
   | nil=>intro s;simp
   | cons r O ih =>
     intro s
     have h1:=ih (s.1 ++ zCd r s.2,r.id)
     have h2:=zH1 r s.2
     rw [List.foldl_cons]
     simp only [List.length_append,List.length_cons] at h1 ⊢
     omega
 intro O
 have:=key O ([],-1)
 simpa [zCZ] using this
def zFC (l:List zAC) (k:Nat):Nat:=zAz (l.getD k default) (zCZ (l.take k)).2
def zB6 (l:List zAC):Nat → Nat
 | 0=>0
 | j + 1=>if zB6 l j ≠ 0 then zB6 l j else zFC l j
def zCW (l:List zAC):Nat:=zB6 l l.length
theorem zPk {l:List zAC} {j:Nat} (h:zB6 l j = 0) (h2:zFC l j = 0):zB6 l (j + 1) = 0:=by unfold zB6;rw [if_neg (by omega),h2]
theorem zN6 {l:List zAC} {j:Nat} (h:zB6 l j = 0):zB6 l (j + 1) = zFC l j:=by unfold zB6;rw [if_neg (by omega)]
theorem zHU {l:List zAC} {j e:Nat} (h:zB6 l j = e) (he:e ≠ 0):∀ k,zB6 l (j + k) = e
 | 0=>h
 | k + 1=>by
   have:=zHU h he k
   show (if zB6 l (j + k) ≠ 0 then zB6 l (j + k) else zFC l (j + k)) = e
   rw [if_pos (by omega),this]
theorem zGN {l:List zAC} {j:Nat} (hj:j < l.length) (h:zB6 l j = 0) (he:zFC l j ≠ 0):zCW l = zFC l j:=by
 have:=zHU (zN6 h) he (l.length - (j + 1))
 rwa [show j + 1 + (l.length - (j + 1)) = l.length by omega] at this
theorem zGY {l:List zAC} {j:Nat} (h:zB6 l j = 0):∀ k,k < j → zFC l k = 0:=by
 induction j with
 | zero=>intro k hk;omega
 | succ j ih =>
   unfold zB6 at h
   split at h
   · omega
   · intro k hk
     by_cases e:k = j
     · subst e;exact h
     · exact ih (by omega) k (by omega)
theorem zMJ {l:List zAC} {j:Nat} (hj:j ≤ l.length) (h:zB6 l j = 0) : -1 ≤ (zCZ (l.take j)).2 ∧ (zCZ (l.take j)).2 ≤ 65535:=by
 cases j with
 | zero=>exact ⟨(show -1 ≤ (-1:Int) by decide),(show (-1:Int) ≤ 65535 by decide)⟩
 | succ j =>
   have h1:=zC3 (zGY h j (by omega))
   rw [zCq (by omega)]
   dsimp only
   omega
def zEx (t tm b:Int) (m:Nat):Nat:=if t < 0 ∨ 4294967295 < t ∨ tm < -2305843009213693952 ∨ 2305843009213693952 < tm ∨ b < -1 then 3 else if t ≤ b then 10 else if 128 < m then 8 else 0
def zG6 (t b:Int):BitVec 64:=if 0 ≤ b then BitVec.ofInt 64 (t - b) else 0#64
def zBD (t tm b:Int) (m:Nat):List zQ:=[71#8,1#8] ++ zCP (BitVec.ofInt 64 t).toNat ++ zCP (zGC tm).toNat ++ zCP (zG6 t b).toNat ++ zCP (BitVec.ofInt 64 (m:Int)).toNat
def zBg (t tm b:Int) (m:Nat):List zQ:=if zEx t tm b m ≠ 0 then [] else zBD t tm b m
def zAU (t tm b:Int) (l:List zAC):Nat:=if zEx t tm b l.length ≠ 0 then zEx t tm b l.length else zCW l
def zDV (t tm b:Int) (l:List zAC):List zQ:=if zAU t tm b l ≠ 0 then [] else zBD t tm b l.length ++ (zCZ l).1
def zFQ (t tm b:Int) (l:List zAC):Nat:=if zAU t tm b l ≠ 0 then zAU t tm b l else if 4092 < (zDV t tm b l).length then 8 else 0
def gwB (t tm b:Int) (l:List zAC):List zQ:=if zFQ t tm b l ≠ 0 then [] else zGU (zDV t tm b l)
theorem zFk (t tm b:Int) (m:Nat):(zBD t tm b m).length ≤ 42:=by
 have h1:=zEC (BitVec.ofInt 64 t).toNat
 have h2:=zEC (zGC tm).toNat
 have h3:=zEC (zG6 t b).toNat
 have h4:=zEC (BitVec.ofInt 64 (m:Int)).toNat
 unfold zBD
 simp only [List.length_append,List.length_cons,List.length_nil]
 omega
theorem zDY {t tm b:Int} {m:Nat} (h:t < 0 ∨ 4294967295 < t ∨ tm < -2305843009213693952 ∨ 2305843009213693952 < tm ∨ b < -1):zEx t tm b m = 3:=by unfold zEx;rw [if_pos h]
theorem zCH {t tm b:Int} {m:Nat} (h:¬ (t < 0 ∨ 4294967295 < t ∨ tm < -2305843009213693952 ∨ 2305843009213693952 < tm ∨ b < -1)) (h2:t ≤ b):zEx t tm b m = 10:=by unfold zEx;rw [if_neg h,if_pos h2]
theorem zDZ {t tm b:Int} {m:Nat} (h:¬ (t < 0 ∨ 4294967295 < t ∨ tm < -2305843009213693952 ∨ 2305843009213693952 < tm ∨ b < -1)) (h2:¬ t ≤ b) (h3:128 < m):zEx t tm b m = 8:=by unfold zEx;rw [if_neg h,if_neg h2,if_pos h3]
theorem zGr {t tm b:Int} {m:Nat} (h:¬ (t < 0 ∨ 4294967295 < t ∨ tm < -2305843009213693952 ∨ 2305843009213693952 < tm ∨ b < -1)) (h2:¬ t ≤ b) (h3:¬ 128 < m):zEx t tm b m = 0:=by unfold zEx;rw [if_neg h,if_neg h2,if_neg h3]
theorem zGL {t tm b:Int} {m:Nat} (h:zEx t tm b m = 0):0 ≤ t ∧ t ≤ 4294967295 ∧ -2305843009213693952 ≤ tm ∧ tm ≤ 2305843009213693952 ∧ -1 ≤ b ∧ b < t ∧ m ≤ 128:=by
 unfold zEx at h
 split at h
 · cases h
 · split at h
   · cases h
   · split at h
     · cases h
     · omega
theorem zCA {t tm b:Int} {l:List zAC} (h:zEx t tm b l.length ≠ 0):zAU t tm b l = zEx t tm b l.length:=by unfold zAU;rw [if_pos h]
theorem zCB {t tm b:Int} {l:List zAC} (h:zEx t tm b l.length = 0):zAU t tm b l = zCW l:=by unfold zAU;rw [if_neg (by omega)]
theorem zFi {t tm b:Int} {l:List zAC} (h:zAU t tm b l ≠ 0):zDV t tm b l = []:=by unfold zDV;rw [if_pos h]
theorem zJg {t tm b:Int} {l:List zAC} (h:zAU t tm b l = 0):zDV t tm b l = zBD t tm b l.length ++ (zCZ l).1:=by unfold zDV;rw [if_neg (by omega)]
theorem zEA {t tm b:Int} {l:List zAC} (h:zAU t tm b l = 0):zEx t tm b l.length = 0 ∧ zCW l = 0:=by
 unfold zAU at h
 split at h
 · omega
 · exact ⟨by omega,h⟩
theorem zGm (t tm b:Int) (l:List zAC):(zDV t tm b l).length ≤ 12842:=by
 unfold zDV
 split
 · simp
 · rename_i h
   have h1:=zGL (zEA (by omega:zAU t tm b l = 0)).1
   have h2:=zFk t tm b l.length
   have h3:=zMz l
   simp only [List.length_append]
   omega
theorem zIt (t tm b:Int) (l:List zAC):(gwB t tm b l).length ≤ 4096:=by
 unfold gwB
 split
 · simp
 · rename_i h
   have h1:zFQ t tm b l = 0:=by omega
   unfold zFQ at h1
   rw [zD3]
   split at h1
   · omega
   · split at h1
     · cases h1
     · omega
end Go.Sx

set_option linter.unusedVariables false
set_option linter.unusedSimpArgs false
namespace Go.Sx
/-! ### What the laws need -/
theorem zLr {t tm b:Int} {l:List zAC} (h:zFQ t tm b l = 0):zAU t tm b l = 0 ∧ (zDV t tm b l).length ≤ 4092:=by
 unfold zFQ at h
 split at h
 · omega
 · split at h
   · cases h
   · omega
theorem zUb {t tm b:Int} {l:List zAC} (h:zFQ t tm b l = 0):gwB t tm b l = zGU (zDV t tm b l):=by unfold gwB;rw [if_neg (by omega)]
theorem zX1 {t tm b:Int} {l:List zAC} (h:zFQ t tm b l = 0):zCe (gwB t tm b l) = some (zDV t tm b l):=by rw [zUb h];exact zKk _
end Go.Sx

set_option linter.unusedVariables false
set_option linter.unusedSimpArgs false
namespace Go.Sx
def zEQ (c:zQ) (bs:List zQ) (R:Rs):Rs:=if (zH bs R).1.toNat = c.toNat then (zH bs R).2 else zBh 7 (zH bs R).2
def zLV (bs:List zQ) (R:Rs):Rs:=zEQ 1#8 bs (zEQ 71#8 bs R)
def gT (bs:List zQ) (R:Rs):Int × Rs:=((((zP bs 4294967295#64 R).1.toNat:Nat):Int),(zP bs 4294967295#64 R).2)
def gTm (bs:List zQ) (R:Rs):Int × Rs:=((zAA bs R).1,if -2305843009213693952 ≤ (zAA bs R).1 ∧ (zAA bs R).1 ≤ 2305843009213693952 then (zAA bs R).2 else zBh 3 (zAA bs R).2)
def gB (bs:List zQ) (t:Int) (R:Rs):Int × Rs:=(if 0 < (zP bs (BitVec.ofInt 64 t) R).1.toNat then t - (((zP bs (BitVec.ofInt 64 t) R).1.toNat:Nat):Int) else -1,(zP bs (BitVec.ofInt 64 t) R).2)
def zL4 (bs:List zQ) (s:List zAC × Int × Rs):List zAC × Int × Rs :=
 if (zAF bs s.2.1 s.2.2).2.1 ≠ 0 then (s.1,s.2.1,(zAF bs s.2.1 s.2.2).2.2) else (s.1 ++ [(zAF bs s.2.1 s.2.2).1],(zAF bs s.2.1 s.2.2).1.id,(zAF bs s.2.1 s.2.2).2.2)
def zJI (bs:List zQ) (s:List zAC × Int × Rs):Nat → List zAC × Int × Rs
 | 0=>s
 | i + 1=>if (zJI bs s i).2.2.e ≠ 0 then zJI bs s i else zL4 bs (zJI bs s i)
def zV (bs:List zQ) (R:Rs) (i:Nat):List zAC × Int × Rs:=zJI bs ([],-1,(zP bs 128#64 R).2) i
def gN (bs:List zQ) (R:Rs):Nat:=(zP bs 128#64 R).1.toNat
def gR1 (x:List zQ):Rs:=zLV x ⟨0,0⟩
def gTx (x:List zQ):Int × Rs:=gT x (gR1 x)
def zGh (x:List zQ):Int × Rs:=gTm x (gTx x).2
def gBx (x:List zQ):Int × Rs:=gB x (gTx x).1 (zGh x).2
def gSx (x:List zQ):List zAC × Int × Rs:=zV x (gBx x).2 (gN x (gBx x).2)
def gEx (x:List zQ):Nat:=zIT x (gSx x).2.2
structure zCu where
 t:Int
 tm:Int
 b:Int
 l:List zAC
 e:Nat
def zA (bs:List zQ):zCu :=
 if 4096 < bs.length then ⟨0,0,0,[],8⟩ else match zCe bs with
   | none=>⟨0,0,0,[],9⟩
   | some x=>if gEx x ≠ 0 then ⟨0,0,0,[],gEx x⟩ else ⟨(gTx x).1,(zGh x).1,(gBx x).1,(gSx x).1,0⟩
theorem zKl {X:BitVec 64} (h:X.toNat ≤ 9223372036854775807):X.toInt = ((X.toNat:Nat):Int):=by rw [BitVec.toInt_eq_toNat_cond,if_pos (by omega)]
theorem zKw (i:Nat):BitVec.ofNat 64 i + 1#64 = BitVec.ofNat 64 (i + 1):=by
 apply BitVec.eq_of_toNat_eq
 simp
theorem zHC {c:zQ} {bs:List zQ} {R:Rs} (h:R.p ≤ bs.length):(zEQ c bs R).p ≤ bs.length ∧ R.p ≤ (zEQ c bs R).p:=by
 have h1:=zD9 h
 have h2:=zBU (e:=7) h1.1
 unfold zEQ
 split <;> omega
theorem zKr {bs:List zQ} {R:Rs} (h:R.p ≤ bs.length):(zLV bs R).p ≤ bs.length:=(zHC (zHC h).1).1
theorem zZ2 {bs:List zQ} {R:Rs} (h:R.p ≤ bs.length):(gT bs R).2.p ≤ bs.length ∧ 0 ≤ (gT bs R).1 ∧ (gT bs R).1 ≤ 4294967295:=by
 have h1:=zA1 (X:=4294967295#64) h
 have h2:(4294967295#64).toNat = 4294967295:=rfl
 unfold gT
 dsimp only
 omega
theorem zVS {bs:List zQ} {R:Rs} (h:R.p ≤ bs.length):(gTm bs R).2.p ≤ bs.length ∧ -9223372036854775808 ≤ (gTm bs R).1 ∧ (gTm bs R).1 ≤ 9223372036854775807:=by
 have h1:=zDJ h
 have h2:=zBU (e:=3) h1.1
 have h3 : -9223372036854775808 ≤ (zAA bs R).1 ∧ (zAA bs R).1 ≤ 9223372036854775807:=by unfold zAA;exact zFr _
 unfold gTm
 dsimp only
 split <;> omega
theorem zZW {bs:List zQ} {t:Int} {R:Rs} (h:R.p ≤ bs.length) (ht:0 ≤ t ∧ t ≤ 4294967295):(gB bs t R).2.p ≤ bs.length ∧ -1 ≤ (gB bs t R).1 ∧ (gB bs t R).1 ≤ 4294967295:=by
 have h1:=zA1 (X:=BitVec.ofInt 64 t) h
 have h2:=zD2 (x:=t) (by omega) (by omega)
 unfold gB
 dsimp only
 split <;> omega
structure zVf (bs:List zQ) (i:Nat) (s:List zAC × Int × Rs):Prop where
 p:s.2.2.p ≤ bs.length
 lo : -1 ≤ s.2.1
 hi:s.2.1 ≤ 65535
 len:s.1.length ≤ i
theorem zQp {bs:List zQ} {last:Int} {R:Rs} (h : -1 ≤ last ∧ last ≤ 65535):(zAF bs last R).2.1 = (zAF bs last R).2.2.e:=by
 unfold zAF
 rw [if_neg (by omega)]
 split
 · rfl
 · split
   · rfl
   · rename_i h1
     exact (Decidable.not_not.1 h1).symm
theorem zUq (bs:List zQ) (last:Int) (R:Rs):(zEJ bs last R).1.id = last + 1 + (((zQS bs last R).1.toNat:Nat):Int):=by
 unfold zEJ zA8 zCC zA3
 dsimp only
 (repeat' split) <;> rfl
theorem zTw {bs:List zQ} {last:Int} {R:Rs} (hp:R.p ≤ bs.length) (h : -1 ≤ last ∧ last ≤ 65535) (h0:(zAF bs last R).2.1 = 0):last < (zAF bs last R).1.id ∧ (zAF bs last R).1.id ≤ 65535:=by
 unfold zAF at h0 ⊢
 rw [if_neg (by omega)] at h0 ⊢
 by_cases hl:last = 65535
 · rw [if_pos hl] at h0
   unfold zBh at h0
   split at h0
   · simp at h0
   · contradiction
 · rw [if_neg hl] at h0 ⊢
   split at h0
   · contradiction
   · rename_i h1
     rw [if_neg h1]
     dsimp only
     rw [zUq]
     have h2:=zA1 (X:=BitVec.ofInt 64 (65534 - last)) hp
     have h3:=zD2 (x:=65534 - last) (by omega) (by omega)
     unfold zQS
     omega
theorem zR6 {bs:List zQ} {i:Nat} {s:List zAC × Int × Rs} (h:zVf bs i s):zVf bs (i + 1) (zL4 bs s):=by
 have hp:=zM8 (last:=s.2.1) h.p
 have hl:=h.len
 unfold zL4
 split
 · exact ⟨hp.1,h.lo,h.hi,by dsimp only;omega⟩
 · rename_i h0
   have hi:=zTw h.p ⟨h.lo,h.hi⟩ (by omega)
   have hlo:=h.lo
   refine ⟨hp.1,by dsimp only;omega,by dsimp only;omega,by simp only [List.length_append,List.length_singleton];omega⟩
theorem zKC {bs:List zQ} {s:List zAC × Int × Rs} (h:zVf bs 0 s):∀ i,zVf bs i (zJI bs s i)
 | 0=>h
 | i + 1=>by
   unfold zJI
   have h1:=zKC h i
   split
   · exact ⟨h1.p,h1.lo,h1.hi,Nat.le_succ_of_le h1.len⟩
   · exact zR6 h1
theorem zVV {bs:List zQ} {R:Rs} (hR:R.p ≤ bs.length):zVf bs 0 ([],-1,(zP bs 128#64 R).2):=⟨(zA1 hR).1,Int.le_refl _,by show (-1:Int) ≤ 65535;decide,Nat.le_refl 0⟩
theorem zCj {bs:List zQ} {R:Rs} (hR:R.p ≤ bs.length) (i:Nat):zVf bs i (zV bs R i):=zKC (zVV hR) i
theorem zK3 {bs:List zQ} {s:List zAC × Int × Rs} {i:Nat} (h:(zJI bs s i).2.2.e ≠ 0):∀ k,zJI bs s (i + k) = zJI bs s i
 | 0=>rfl
 | k + 1=>by
   have h1:=zK3 h k
   show (if (zJI bs s (i + k)).2.2.e ≠ 0 then zJI bs s (i + k) else _) = _
   rw [h1,if_pos h]
theorem zXi (bs:List zQ) (R:Rs):gN bs R ≤ 128:=by
 have h2:(128#64).toNat = 128:=rfl
 unfold gN zP
 split
 · exact Nat.zero_le _
 · split
   · exact Nat.zero_le _
   · split
     · exact Nat.zero_le _
     · rename_i h
       have h1:=(zLz (Decidable.not_not.1 h)).2
       dsimp only
       omega
theorem zUQ {bs:List zQ} {R:Rs}:gN bs R ≤ 0 ∨ (zV bs R 0).2.2.e = 0:=by
 show (zP bs 128#64 R).1.toNat ≤ 0 ∨ (zP bs 128#64 R).2.e = 0
 unfold zP
 (repeat' split) <;> first | exact .inl (Nat.le_refl 0) | exact .inr rfl
theorem zJ2 {bs:List zQ} {R:Rs} {i:Nat} (h:(zV bs R i).2.2.e = 0) (h0:(zAF bs (zV bs R i).2.1 (zV bs R i).2.2).2.1 = 0):zV bs R (i + 1) = ((zV bs R i).1 ++ [(zAF bs (zV bs R i).2.1 (zV bs R i).2.2).1],(zAF bs (zV bs R i).2.1 (zV bs R i).2.2).1.id,(zAF bs (zV bs R i).2.1 (zV bs R i).2.2).2.2):=by
 show zJI _ _ (i + 1) = _
 unfold zJI
 rw [if_neg (by unfold zV at h;omega)]
 unfold zL4
 rw [if_neg (by unfold zV at h0;omega)]
 rfl
theorem zOU {bs:List zQ} {R:Rs} {i:Nat} (hR:R.p ≤ bs.length) (h:(zV bs R i).2.2.e = 0) (h0:(zAF bs (zV bs R i).2.1 (zV bs R i).2.2).2.1 = 0):(zV bs R (i + 1)).2.2.e = 0:=by
 have hi:=zCj hR i
 rw [zJ2 h h0,← h0]
 exact (zQp ⟨hi.lo,hi.hi⟩).symm
theorem zRQ {bs:List zQ} {R:Rs} {i:Nat} (hR:R.p ≤ bs.length) (hi:i < gN bs R) (h:(zV bs R i).2.2.e = 0) (h0:(zAF bs (zV bs R i).2.1 (zV bs R i).2.2).2.1 ≠ 0):zV bs R (gN bs R) = ((zV bs R i).1,(zV bs R i).2.1,(zAF bs (zV bs R i).2.1 (zV bs R i).2.2).2.2):=by
 have hv:=zCj hR i
 have h1:zV bs R (i + 1) = ((zV bs R i).1,(zV bs R i).2.1,(zAF bs (zV bs R i).2.1 (zV bs R i).2.2).2.2):=by
   show zJI _ _ (i + 1) = _
   unfold zJI
   rw [if_neg (by unfold zV at h;omega)]
   unfold zL4
   rw [if_pos (by unfold zV at h0;omega)]
   rfl
 have h2:=zQp (bs:=bs) (R:=(zV bs R i).2.2) ⟨hv.lo,hv.hi⟩
 have h3:=zK3 (bs:=bs) (s:=([],-1,(zP bs 128#64 R).2)) (i:=i + 1) (by
   show (zV bs R (i + 1)).2.2.e ≠ 0
   rw [h1]
   dsimp only
   omega) (gN bs R - (i + 1))
 rw [show i + 1 + (gN bs R - (i + 1)) = gN bs R by omega] at h3
 exact h3.trans h1
theorem zJD {bs:List zQ} (h:4096 < bs.length):zA bs = ⟨0,0,0,[],8⟩:=by unfold zA;rw [if_pos h]
theorem zIn {bs:List zQ} (h:¬ 4096 < bs.length) (ho:zCe bs = none):zA bs = ⟨0,0,0,[],9⟩:=by unfold zA;rw [if_neg h,ho]
theorem zKL {bs x:List zQ} (h:¬ 4096 < bs.length) (ho:zCe bs = some x) (he:gEx x ≠ 0):zA bs = ⟨0,0,0,[],gEx x⟩:=by
 unfold zA
 rw [if_neg h,ho]
 dsimp only
 rw [if_pos he]
theorem zKA {bs x:List zQ} (h:¬ 4096 < bs.length) (ho:zCe bs = some x) (he:gEx x = 0):zA bs = ⟨(gTx x).1,(zGh x).1,(gBx x).1,(gSx x).1,0⟩:=by
 unfold zA
 rw [if_neg h,ho]
 dsimp only
 rw [if_neg (by omega)]
theorem zU2 (x:List zQ):(gR1 x).p ≤ x.length:=zKr (Nat.zero_le _)
theorem zNc (x:List zQ):(gTx x).2.p ≤ x.length ∧ 0 ≤ (gTx x).1 ∧ (gTx x).1 ≤ 4294967295:=zZ2 (zU2 x)
theorem zMF (x:List zQ):(zGh x).2.p ≤ x.length ∧ -9223372036854775808 ≤ (zGh x).1 ∧ (zGh x).1 ≤ 9223372036854775807:=zVS (zNc x).1
theorem zK6 (x:List zQ):(gBx x).2.p ≤ x.length ∧ -1 ≤ (gBx x).1 ∧ (gBx x).1 ≤ 4294967295:=zZW (zMF x).1 (zNc x).2
theorem zPU (x:List zQ):(gSx x).1.length ≤ 128:=by unfold gSx;exact Nat.le_trans (zCj (zK6 x).1 _).len (zXi _ _)
theorem zGX (x:List zQ):zV x (gBx x).2 (gN x (gBx x).2) = gSx x:=rfl
theorem zPC (x:List zQ):zIT x (gSx x).2.2 = gEx x:=rfl
theorem za4 (x:List zQ):(gSx x).2.2.p ≤ x.length:=by rw [← zGX];exact (zCj (zK6 x).1 _).p
theorem zHL (bs:List zQ):(zA bs).l.length ≤ 128 ∧ 0 ≤ (zA bs).t ∧ (zA bs).t ≤ 4294967295 ∧ -9223372036854775808 ≤ (zA bs).tm ∧ (zA bs).tm ≤ 9223372036854775807 ∧ -1 ≤ (zA bs).b ∧ (zA bs).b ≤ 4294967295:=by
 unfold zA
 split
 · simp
 · split
   · simp
   · rename_i x _
     have h1:=zNc x
     have h2:=zMF x
     have h3:=zK6 x
     have h4:=zPU x
     split
     · simp
     · dsimp only
       omega
theorem zZz (x:List zQ):zEQ 1#8 x (zEQ 71#8 x ⟨0,0⟩) = gR1 x:=rfl
theorem zaL (x:List zQ):gTx x = ((((zP x 4294967295#64 (gR1 x)).1.toNat:Nat):Int),(zP x 4294967295#64 (gR1 x)).2):=rfl
theorem zYB {x:List zQ} (h : -2305843009213693952 ≤ (zAA x (gTx x).2).1 ∧ (zAA x (gTx x).2).1 ≤ 2305843009213693952):zGh x = ((zAA x (gTx x).2).1,(zAA x (gTx x).2).2):=by unfold zGh gTm;rw [if_pos h]
theorem zWo {x:List zQ} (h:0 < (zP x (BitVec.ofInt 64 (gTx x).1) (zGh x).2).1.toNat):gBx x = ((gTx x).1 - (((zP x (BitVec.ofInt 64 (gTx x).1) (zGh x).2).1.toNat:Nat):Int),(zP x (BitVec.ofInt 64 (gTx x).1) (zGh x).2).2):=by unfold gBx gB;rw [if_pos h]
theorem zWH {x:List zQ} (h:¬ 0 < (zP x (BitVec.ofInt 64 (gTx x).1) (zGh x).2).1.toNat):gBx x = (-1,(zP x (BitVec.ofInt 64 (gTx x).1) (zGh x).2).2):=by unfold gBx gB;rw [if_neg h]
end Go.Sx

set_option linter.unusedVariables false
set_option linter.unusedSimpArgs false
namespace Go.Sx
theorem zQX {bs:List zQ} {s:List zAC × Int × Rs} (h:zVf bs 0 s) (hw:∀ r ∈ s.1,r.wf):∀ i,∀ r ∈ (zJI bs s i).1,r.wf
 | 0=>hw
 | i + 1=>by
   have h1:=zKC h i
   have h2:=zQX h hw i
   unfold zJI
   split
   · exact h2
   · unfold zL4
     split
     · exact h2
     · intro r hr
       rcases List.mem_append.1 hr with hr | hr
       · exact h2 r hr
       · rw [List.mem_singleton.1 hr];exact zTT h1.p
theorem zY3 (x:List zQ):∀ r ∈ (gSx x).1,r.wf:=by
 rw [← zGX]
 unfold zV
 exact zQX (zVV (zK6 x).1) (fun r hr=>by cases hr) _
theorem zJm (bs:List zQ):∀ r ∈ (zA bs).l,r.wf:=by
 unfold zA
 split
 · simp
 · split
   · simp
   · split
     · simp
     · dsimp only;exact zY3 _
end Go.Sx

set_option linter.unusedVariables false
set_option linter.unusedSimpArgs false
namespace Go.Sx
theorem zDE.full {α:Type} {bs c rest:List zQ} {f:Rs → α × Rs} {v:α} {p:Nat} (h:zDE bs c f v) (hp:p ≤ bs.length) (hd:bs.drop p = c ++ rest):f ⟨p,0⟩ = (v,⟨p + c.length,0⟩) ∧ bs.drop (p + c.length) = rest ∧ p + c.length ≤ bs.length:=by
 have hd':bs.drop p = (c ++ rest).take (c ++ rest).length:=by rw [List.take_length];exact hd
 have h2:=zMa hd' (by simp) hp
 exact ⟨h.good ⟨p,0⟩ _ rest rfl hp hd' (by simp),by rw [h2.1,List.length_append,Nat.add_sub_cancel_left,List.take_length],h2.2⟩
theorem zKW {bs rest:List zQ} {c:zQ} {p:Nat} (hp:p ≤ bs.length) (hd:bs.drop p = [c] ++ rest):zEQ c bs ⟨p,0⟩ = ⟨p + 1,0⟩ ∧ bs.drop (p + 1) = rest ∧ p + 1 ≤ bs.length:=by
 obtain ⟨h1,h2,h3⟩:=(zGe (bs:=bs) (c:=c)).full hp hd
 refine ⟨?_,h2,h3⟩
 unfold zEQ
 rw [h1,if_pos rfl]
 rfl
theorem zKp {bs : List zQ} {l : List zAC} {R : Rs} {p : Nat} (hl : ∀ x ∈ l, x.wf) (he : zCW l = 0) (h0 : (zP bs 128#64 R).2 = ⟨p, 0⟩) (hp : p ≤ bs.length) (hR : R.p ≤ bs.length) {tail : List zQ} (hd : bs.drop p = (zCZ l).1 ++ tail) :
   ∀ i,i ≤ l.length → zV bs R i = (l.take i,(zCZ (l.take i)).2,⟨p + (zCZ (l.take i)).1.length,0⟩)
 | 0,_=>by
   show ([],(-1:Int),(zP bs 128#64 R).2) = _
   rw [h0]
   rfl
 | i + 1,hi=>by
   have ih:=zKp hl he h0 hp hR hd i (by omega)
   obtain ⟨rest,hs⟩:=zOm (O:=l) (i + 1)
   rw [zCq (by omega)] at hs
   have hds:=hd
   rw [hs,List.append_assoc,List.append_assoc] at hds
   have hlen:=congrArg List.length hds
   simp only [List.length_drop,List.length_append] at hlen
   have h1:bs.drop (p + (zCZ (l.take i)).1.length) = zCd (l.getD i default) (zCZ (l.take i)).2 ++ (rest ++ tail):=by
     rw [← List.drop_drop,hds,List.drop_left]
   have hq:=zX3 (bs:=bs) (last:=(zCZ (l.take i)).2) (zLJ hl (by omega)) (zGY he i (by omega)) (by omega) h1
   rw [zJ2 (by rw [ih]) (by rw [ih];dsimp only;rw [hq]),ih]
   dsimp only
   rw [hq,zCq (by omega),zIL (by omega)]
   dsimp only
   rw [List.length_append,Nat.add_assoc]
theorem zOf {t tm b:Int} {l:List zAC} {x tail:List zQ} (hl:∀ x ∈ l,x.wf) (hb:zAU t tm b l = 0) (hx0:x = zDV t tm b l ++ tail):(gTx x).1 = t ∧ (zGh x).1 = tm ∧ (gBx x).1 = b ∧ (gSx x).1 = l ∧ gEx x = if tail = [] then 0 else 8:=by
 obtain ⟨hg,hr⟩:=zEA hb
 obtain ⟨g1,g2,g3,g4,g5,g6,g7⟩:=zGL hg
 have hx:x = [71#8] ++ ([1#8] ++ (zCP (BitVec.ofInt 64 t).toNat ++ (zDS tm ++ (zCP (zG6 t b).toNat ++ (zCP (BitVec.ofInt 64 (l.length:Int)).toNat ++ ((zCZ l).1 ++ tail)))))):=by
   rw [hx0,zJg hb,zBD,zDS]
   simp only [List.append_assoc,List.cons_append,List.nil_append]
 have ht:=zD2 (x:=t) (by omega) (by omega)
 have hm:=zD2 (x:=(l.length:Int)) (by omega) (by omega)
 have hbk:((zG6 t b).toNat:Int) = if 0 ≤ b then t - b else 0:=by
   unfold zG6
   split
   · exact zD2 (by omega) (by omega)
   · rfl
 obtain ⟨a1,a2,a3⟩:=zKW (bs:=x) (p:=0) (Nat.zero_le _) (by rw [List.drop_zero];exact hx)
 obtain ⟨b1,b2,b3⟩:=zKW a3 a2
 have e1:gR1 x = ⟨0 + 1 + 1,0⟩:=by rw [← zZz,a1,b1]
 obtain ⟨c1,c2,c3⟩:=(zCS (bs:=x) (L:=4294967295#64) (X:=BitVec.ofInt 64 t) (by show _ ≤ 4294967295;omega)).full b3 b2
 have e2:gTx x = (t,⟨0 + 1 + 1 + (zCP (BitVec.ofInt 64 t).toNat).length,0⟩):=by rw [zaL,e1,c1,ht]
 obtain ⟨d1,d2,d3⟩:=(zCf (bs:=x) (x:=tm) (by omega)).full c3 c2
 generalize hp2:0 + 1 + 1 + (zCP (BitVec.ofInt 64 t).toNat).length = p2 at *
 have e3:zGh x = (tm,⟨p2 + (zDS tm).length,0⟩):=by
   have q:zAA x (gTx x).2 = (tm,⟨p2 + (zDS tm).length,0⟩):=by rw [e2];exact d1
   rw [zYB (by rw [q];dsimp only;omega),q]
 generalize hp3:p2 + (zDS tm).length = p3 at *
 obtain ⟨f1,f2,f3⟩:=(zCS (bs:=x) (L:=BitVec.ofInt 64 t) (X:=zG6 t b) (by split at hbk <;> omega)).full d3 d2
 generalize hp4:p3 + (zCP (zG6 t b).toNat).length = p4 at *
 have e4:gBx x = (b,⟨p4,0⟩):=by
   have q:zP x (BitVec.ofInt 64 (gTx x).1) (zGh x).2 = (zG6 t b,⟨p4,0⟩):=by rw [e2,e3];exact f1
   by_cases hb0:0 ≤ b
   · rw [if_pos hb0] at hbk
     rw [zWo (by rw [q];dsimp only;omega),q,e2]
     dsimp only
     rw [hbk,show t - (t - b) = b by omega]
   · rw [if_neg hb0] at hbk
     rw [zWH (by rw [q];dsimp only;omega),q]
     dsimp only
     rw [show b = -1 by omega]
 obtain ⟨k1,k2,k3⟩:=(zCS (bs:=x) (L:=128#64) (X:=BitVec.ofInt 64 (l.length:Int)) (by show _ ≤ 128;omega)).full f3 f2
 have hn:gN x (gBx x).2 = l.length:=by
   unfold gN
   rw [e4]
   dsimp only
   rw [k1]
   dsimp only
   omega
 have hrec:=zKp (R:=(gBx x).2) hl hr (by rw [e4];dsimp only;rw [k1]) k3 (by rw [e4];exact f3) k2 l.length (Nat.le_refl _)
 rw [List.take_length] at hrec
 have hS:gSx x = (l,(zCZ l).2,⟨p4 + (zCP (BitVec.ofInt 64 (l.length:Int)).toNat).length + (zCZ l).1.length,0⟩):=by rw [← zGX,hn,hrec]
 have hlen:=congrArg List.length k2
 rw [List.length_drop,List.length_append] at hlen
 have hE:gEx x = if tail = [] then 0 else 8:=by
   rw [← zPC,hS]
   unfold zIT
   cases tail with
   | nil =>
     rw [List.length_nil] at hlen
     rw [if_pos (.inr (by dsimp only;omega)),if_pos rfl]
   | cons c tl =>
     rw [List.length_cons] at hlen
     rw [if_neg (by dsimp only;omega),if_neg (by simp)]
 exact ⟨by rw [e2],by rw [e3],by rw [e4],by rw [hS],hE⟩
theorem zHz {t tm b:Int} {l:List zAC} (hl:∀ x ∈ l,x.wf) (h:zFQ t tm b l = 0):zA (gwB t tm b l) = ⟨t,tm,b,l,0⟩:=by
 have hw:=zIt t tm b l
 obtain ⟨h1,h2,h3,h4,h5⟩:=zOf (x:=zDV t tm b l) (tail:=[]) hl (zLr h).1 (by rw [List.append_nil])
 rw [zKA (by omega) (zX1 h) (by rw [h5];rfl),h1,h2,h3,h4]
end Go.Sx

set_option linter.unusedVariables false
set_option linter.unusedSimpArgs false
namespace Go.Sx
theorem zMv {α:Type} {f:Nat → List Value} {g:α → List Value} {p:α → Prop}:∀ (n:Nat),(∀ i,i < n → ∃ a:α,f i = g a ∧ p a) → ∃ l:List α,l.length = n ∧ (List.range n).flatMap f = l.flatMap g ∧ ∀ x ∈ l,p x
 | 0,_=>⟨[],rfl,rfl,by simp⟩
 | n + 1,h=>by
   obtain ⟨l,hl,he,hp⟩:=zMv n fun i hi=>h i (by omega)
   obtain ⟨a,ha,hpa⟩:=h n (by omega)
   refine ⟨l ++ [a],by simp [hl],by rw [List.range_succ,List.flatMap_append,List.flatMap_append,he];simp [ha],fun x hx=>?_⟩
   rcases List.mem_append.1 hx with hx | hx
   · exact hp x hx
   · rw [List.mem_singleton] at hx;subst hx;exact hpa
/-! ### A row of records -/
/-! ### Sizes -/
end Go.Sx
