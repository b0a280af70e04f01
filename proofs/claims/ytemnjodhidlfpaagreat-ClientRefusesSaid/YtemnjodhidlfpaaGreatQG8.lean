import Derived.Test.YtemnjodhidlfpaaGreatQG7
import Derived.Test.YtemnjodhidlfpaaGreatQSxBasB
import Derived.ArgAppend
import Derived.Test.YtemnjodhidlfpaaGreatQSxStos
import Derived.Test.YtemnjodhidlfpaaGreatQSxGrams
import Derived.Test.YtemnjodhidlfpaaGreatQSxMap
/- Where entities are shown: plain mathematics. -/
set_option linter.unusedVariables false
set_option linter.unusedSimpArgs false
namespace Go.Sx
/-! ### Pick -/
def zJk (L:List RI) (t:Int):Nat → Option (Nat × Int)
 | 0=>none
 | k + 1=>if (L.getD k default).tm ≤ t then some (k,if k + 1 = L.length then -1 else ((k + 1:Nat):Int)) else zJk L t k
def zBH (L:List RI) (t:Int):Int × Int × Nat :=
 if zDZ none (tms L) ≠ 0 then (0,0,zDZ none (tms L)) else match zJk L t L.length with
 | some (i,nx)=>((i:Int),nx,0)
 | none=>(0,0,5)
theorem zYP {L:List RI} {t:Int} (h:((zDZ none (tms L):Nat):Int) ≠ 0):zBH L t = (0,0,zDZ none (tms L)):=if_pos (by omega)
theorem zWO {L:List RI} {t:Int} {i:Nat} {nx:Int} (h:((zDZ none (tms L):Nat):Int) = 0) (hp:zJk L t L.length = some (i,nx)):zBH L t = ((i:Int),nx,0):=by
 unfold zBH;rw [if_neg (by omega),hp]
theorem zYm {L:List RI} {t:Int} (h:((zDZ none (tms L):Nat):Int) = 0) (hp:zJk L t L.length = none):zBH L t = (0,0,5):=by
 unfold zBH;rw [if_neg (by omega),hp]
theorem zLy {L:List RI} {t:Int}:∀ {k i:Nat} {nx:Int},zJk L t k = some (i,nx) → i < k ∧ (L.getD i default).tm ≤ t ∧ nx = (if i + 1 = L.length then -1 else ((i + 1:Nat):Int)) ∧ ∀ j,i < j → j < k → ¬ (L.getD j default).tm ≤ t
 | 0,_,_,h=>by cases h
 | k + 1,i,nx,h=>by
   unfold zJk at h
   split at h
   · next hle=>cases h;exact ⟨Nat.lt_succ_self _,hle,rfl,fun j h1 h2=>absurd h2 (by omega)⟩
   · next hle =>
     obtain ⟨h1,h2,h3,h4⟩:=zLy h
     refine ⟨by omega,h2,h3,fun j hj1 hj2=>?_⟩
     by_cases e:j = k
     · rw [e];exact hle
     · exact h4 j hj1 (by omega)
theorem zS7 {L:List RI} {t:Int} (h:(zBH L t).2.2 = 0):zDZ none (tms L) = 0 ∧ ∃ i:Nat,i < L.length ∧ (zBH L t).1 = (i:Int) ∧ (L.getD i default).tm ≤ t ∧ (zBH L t).2.1 = (if i + 1 = L.length then -1 else ((i + 1:Nat):Int)) ∧ ∀ j,i < j → j < L.length → t < (L.getD j default).tm:=by
 unfold zBH at h ⊢
 by_cases he:zDZ none (tms L) ≠ 0
 · rw [if_pos he] at h;exact absurd h he
 · rw [if_neg he] at h ⊢
   cases hp:zJk L t L.length with
   | none=>rw [hp] at h;cases h
   | some p =>
     obtain ⟨i,nx⟩:=p
     obtain ⟨h1,h2,h3,h4⟩:=zLy hp
     exact ⟨Decidable.not_not.1 he,i,h1,rfl,h2,h3,fun j hj1 hj2=>by have:=h4 j hj1 hj2;omega⟩
theorem zYB {L:List RI} {t:Int} {k:Nat} (h:¬ (L.getD k default).tm ≤ t):zJk L t (k + 1) = zJk L t k:=by
 show (if _ then _ else _) = _;rw [if_neg h]
theorem zUG {L:List RI} {t:Int} {k:Nat} (h:(L.getD k default).tm ≤ t):zJk L t (k + 1) = some (k,if k + 1 = L.length then -1 else ((k + 1:Nat):Int)):=by
 show (if _ then _ else _) = _;rw [if_pos h]
/-! ### What is shown -/
structure zFq where
 id:Int
 p0:Int
 p1:Int
 p2:Int
 a:BitVec 16
 m:Int
instance : Inhabited zFq:=⟨⟨0,0,0,0,0#16,0⟩⟩
def zBB (p:zFq):List Value:=[.int .i64 p.id,.int .i64 p.p0,.int .i64 p.p1,.int .i64 p.p2,.int .u16 ((p.a.toNat:Nat):Int),.int .i64 p.m]
theorem zGH (p:zFq):(zBB p).length = 6:=rfl
def zEW : List RI → Nat
 | []=>0
 | x :: l=>if zAC x.t x.tm x.l ≠ 0 then zAC x.t x.tm x.l else zEW l
theorem zJc {L:List RI} {j:Nat} (h:j < L.length):zEW (L.drop j) = if zAC (L.getD j default).t (L.getD j default).tm (L.getD j default).l ≠ 0 then zAC (L.getD j default).t (L.getD j default).tm (L.getD j default).l else zEW (L.drop (j + 1)):=by
 rw [List.drop_eq_getElem_cons h,zEW,List.getD_eq_getElem?_getD,List.getElem?_eq_getElem h];rfl
theorem zOh {L:List RI} {j:Nat} {e:Nat} (h:j < L.length) (he:zEW (L.drop j) = e) (h0:((zAC (L.getD j default).t (L.getD j default).tm (L.getD j default).l:Nat):Int) = 0):zEW (L.drop (j + 1)) = e:=by
 rw [← he,zJc h,if_neg (by omega)]
theorem zSS {L:List RI} {j:Nat} {e:Nat} (h:j < L.length) (he:zEW (L.drop j) = e) (h0:((zAC (L.getD j default).t (L.getD j default).tm (L.getD j default).l:Nat):Int) ≠ 0):zAC (L.getD j default).t (L.getD j default).tm (L.getD j default).l = e:=by
 rw [← he,zJc h,if_pos (by omega)]
theorem zP0 {L:List RI} {j:Nat} {e:Nat} (h:L.length ≤ j) (he:zEW (L.drop j) = e):0 = e:=by
 rw [← he,List.drop_eq_nil_of_le h];rfl
theorem zRI {L:List RI} (h:zEW L = 0):∀ x ∈ L,zAC x.t x.tm x.l = 0:=by
 induction L with
 | nil=>intro x hx;cases hx
 | cons y l ih =>
   unfold zEW at h
   split at h
   · next h2=>exact absurd h h2
   · next h2 =>
     intro x hx
     rcases List.mem_cons.1 hx with e | e
     · rw [e];exact Decidable.not_not.1 h2
     · exact ih h x e
def zFT (c:zAF) (L:List RI):Nat:=if zCj c ≠ 0 then zCj c else zEW L
theorem zZ1 {c:zAF} {L:List RI} (h:((zCj c:Nat):Int) ≠ 0):zCj c = zFT c L:=(if_pos (by omega)).symm
theorem zVk {c:zAF} {L:List RI} {e:Nat} (h:((zCj c:Nat):Int) = 0) (he:e = zEW L):e = zFT c L:=by unfold zFT;rw [if_neg (by omega),he]
theorem zQl {c:zAF} {L:List RI} (h:zFT c L = 0):zCj c = 0 ∧ zEW L = 0:=by
 unfold zFT at h
 split at h
 · next h2=>exact absurd h h2
 · next h2=>exact ⟨Decidable.not_not.1 h2,h⟩
def zCC (x:zX):zFq:=⟨x.id,x.p0,x.p1,x.p2,x.a,0⟩
def pL (n d x y:Int):Int:=bif zBZ n d == 0 then zC4 x y n d else 0
def pC (n d x u y v:Int):Int:=bif zBZ n d == 0 then cAt x u y v n d else 0
def pA (n d:Int) (x y:BitVec 16):BitVec 16:=bif zBZ n d == 0 then zYu x y n d else 0#16
def pW (c:Bool) (n d x u y v:Int):Int:=bif c then pC n d x u y v else pL n d x y
def zba (c:Bool) (n d:Int) (x y:zX):zFq:=⟨x.id,pW c n d x.p0 x.v0 y.p0 y.v0,pW c n d x.p1 x.v1 y.p1 y.v1,pW c n d x.p2 x.v2 y.p2 y.v2,pA n d x.a y.a,bif c then 2 else 1⟩
def zUf (c:Bool) (n d:Int) (B:List zX) (x:zX):zFq:=if (zA9 x.id B).isSome = true ∧ ((zA9 x.id B).getD zDB).g = x.g then zba c n d x ((zA9 x.id B).getD zDB) else zCC x
def zEK (c:zAF) (a b:RI) (t:Int):Nat:=if zFT c [a,b] ≠ 0 then zFT c [a,b] else (zAu a b t).2.2
def zDo (c:zAF) (a b:RI) (t:Int):List zFq:=if zEK c a b t ≠ 0 then [] else a.l.map (zUf c.curve (zAu a b t).1 (zAu a b t).2.1 b.l)
def zY0 (m k:Int) (x:zX):zFq:=⟨x.id,zCz x.p0 (zAv x.v0 k),zCz x.p1 (zAv x.v1 k),zCz x.p2 (zAv x.v2 k),x.a,m⟩
def zEH (c:zAF) (x:RI) (t:Int):Nat:=if zFT c [x] ≠ 0 then zFT c [x] else (zIY x t).2
def zKh (c:zAF) (d:Int):Int:=if d = 0 then 0 else if c.extra < d then 4 else 3
def zIt (c:zAF) (d:Int):Int:=if d = 0 then d else if c.extra < d then c.extra else d
def zDb (c:zAF) (x:RI) (t:Int):List zFq:=if zEH c x t ≠ 0 then [] else x.l.map (zY0 (zKh c (zIY x t).1) (zIt c (zIY x t).1))
def zEA (c:zAF) (L:List RI) (t:Int):List zFq × Nat :=
 if zFT c L ≠ 0 then ([],zFT c L) else if (zBH L t).2.2 ≠ 0 then ([],(zBH L t).2.2)
 else if (zBH L t).2.1 < 0 then (zDb c (L.getD (zBH L t).1.toNat default) t,zEH c (L.getD (zBH L t).1.toNat default) t)
 else (zDo c (L.getD (zBH L t).1.toNat default) (L.getD (zBH L t).2.1.toNat default) t,zEK c (L.getD (zBH L t).1.toNat default) (L.getD (zBH L t).2.1.toNat default) t)
structure RI.ok (w:World) (x:RI):Prop where
 t : -9223372036854775808 ≤ x.t ∧ x.t ≤ 9223372036854775807
 tm : -9223372036854775808 ≤ x.tm ∧ x.tm ≤ 9223372036854775807
 rd:Rd w [] x.v 9 x.l.length (x.l.flatMap zBR)
 wf:∀ e ∈ x.l,e.wf
theorem RI.ok.to {x:RI} {w0 w:World} {M:List HA} (h:x.ok w0) (hm:Mem w0 [] M w):x.ok w:=⟨h.t,h.tm,hm.rd0 h.rd,h.wf⟩
theorem zZl {x:RI} {w:World} (h:x.ok w):∀ z ∈ [x],z.ok w:=by
 intro z hz;rw [List.mem_singleton] at hz;rw [hz];exact h
theorem zac {x y:RI} {w:World} (h:x.ok w) (h2:y.ok w):∀ z ∈ [x,y],z.ok w:=by
 intro z hz;rw [List.mem_cons,List.mem_singleton] at hz;rcases hz with e | e <;> rw [e] <;> assumption
theorem zap {L:List RI} {w:World} (h:∀ x ∈ L,x.ok w):∀ x ∈ L,zDm x.v x.l.length:=fun x hx=>(h x hx).rd.isSl
theorem zCi {f:zX → zFq} {l:List zX} {j:Nat} (h:j < l.length):(l.take j).map f ++ [f (l.getD j default)] = (l.take (j + 1)).map f:=by
 rw [List.take_succ_eq_append_getElem h,List.map_append,List.getD_eq_getElem?_getD,List.getElem?_eq_getElem h];rfl
theorem zMM : zDB.wf:=by constructor <;> (show _ ≤ (0:Int) ∧ (0:Int) ≤ _;omega)
theorem zXw {l:List zX} {k:Int} (h:∀ e ∈ l,e.wf):((zA9 k l).getD zDB).wf:=by
 cases hg:zA9 k l with
 | none=>exact zMM
 | some e=>exact h e (zF5 hg).1
theorem zOA {c:zAF} {L:List RI} {x:RI} (h:zFT c L = 0) (hx:x ∈ L):x.l.length ≤ 64:=by
 have h1:=zRI (zQl h).2 x hx
 unfold zAC at h1
 split at h1
 · cases h1
 · split at h1
   · cases h1
   · omega
theorem zNM (x:RI) (t:Int) : -9223372036854775808 ≤ (zIY x t).1 ∧ (zIY x t).1 ≤ 9223372036854775807:=by
 unfold zIY
 split
 · dsimp only;omega
 · split
   · dsimp only;omega
   · exact zB8 _ _
theorem zFN {c:zAF} {d:Int} (h:d = 0):0 = zKh c d ∧ d = zIt c d:=by unfold zKh zIt;rw [if_pos h,if_pos h];exact ⟨rfl,rfl⟩
theorem zFD {c:zAF} {d:Int} (h:d ≠ 0) (h2:c.extra < d):4 = zKh c d ∧ c.extra = zIt c d:=by unfold zKh zIt;rw [if_neg h,if_neg h,if_pos h2,if_pos h2];exact ⟨rfl,rfl⟩
theorem zE5 {c:zAF} {d:Int} (h:d ≠ 0) (h2:¬ c.extra < d):3 = zKh c d ∧ d = zIt c d:=by unfold zKh zIt;rw [if_neg h,if_neg h,if_neg h2,if_neg h2];exact ⟨rfl,rfl⟩
theorem zYS {c:zAF} {x:RI} {t:Int} (h:((zFT c [x]:Nat):Int) ≠ 0):zEH c x t = zFT c [x]:=if_pos (by omega)
theorem zRx {c:zAF} {x:RI} {t:Int} (h:zFT c [x] = 0):zEH c x t = (zIY x t).2:=by unfold zEH;rw [if_neg (by omega)]
theorem zWE {c:zAF} {x:RI} {t:Int} (h:zEH c x t = 0):zDb c x t = x.l.map (zY0 (zKh c (zIY x t).1) (zIt c (zIY x t).1)):=by unfold zDb;rw [if_neg (by omega)]
theorem zRW {c:zAF} {x:RI} {t:Int} (h:((zEH c x t:Nat):Int) ≠ 0):zDb c x t = []:=by unfold zDb;rw [if_pos (by omega)]
theorem zWj {c:zAF} {x y:RI} {t:Int} (h:((zFT c [x,y]:Nat):Int) ≠ 0):zEK c x y t = zFT c [x,y]:=if_pos (by omega)
theorem zSO {c:zAF} {x y:RI} {t:Int} (h:zFT c [x,y] = 0):zEK c x y t = (zAu x y t).2.2:=by unfold zEK;rw [if_neg (by omega)]
theorem zXO {c:zAF} {x y:RI} {t:Int} (h:zEK c x y t = 0):zDo c x y t = x.l.map (zUf c.curve (zAu x y t).1 (zAu x y t).2.1 y.l):=by unfold zDo;rw [if_neg (by omega)]
theorem zSX {c:zAF} {x y:RI} {t:Int} (h:((zEK c x y t:Nat):Int) ≠ 0):zDo c x y t = []:=by unfold zDo;rw [if_pos (by omega)]
theorem zXm {c:zAF} {L:List RI} {t:Int} (h:((zFT c L:Nat):Int) ≠ 0):zEA c L t = ([],zFT c L):=if_pos (by omega)
theorem zXI {c:zAF} {L:List RI} {t:Int} (h:zFT c L = 0) (h2:(((zBH L t).2.2:Nat):Int) ≠ 0):zEA c L t = ([],(zBH L t).2.2):=by unfold zEA;rw [if_neg (by omega),if_pos (by omega)]
theorem zWF {c:zAF} {L:List RI} {t:Int} {i:Nat} (h:zFT c L = 0) (h2:(zBH L t).2.2 = 0) (h3:(zBH L t).1 = (i:Int)) (h4:(zBH L t).2.1 < 0):zEA c L t = (zDb c (L.getD i default) t,zEH c (L.getD i default) t):=by
 unfold zEA;rw [if_neg (by omega),if_neg (by omega),if_pos h4,h3];rfl
theorem zYv {c:zAF} {L:List RI} {t:Int} {i k:Nat} (h:zFT c L = 0) (h2:(zBH L t).2.2 = 0) (h3:(zBH L t).1 = (i:Int)) (h4:(zBH L t).2.1 = (k:Int)):zEA c L t = (zDo c (L.getD i default) (L.getD k default) t,zEK c (L.getD i default) (L.getD k default) t):=by
 unfold zEA;rw [if_neg (by omega),if_neg (by omega),if_neg (by omega),h3,h4];rfl
theorem zR4 {l:List zX} {i:Nat} (h:i < l.length):l.getD i default ∈ l:=by
 rw [List.getD_eq_getElem?_getD,List.getElem?_eq_getElem h];exact List.getElem_mem h
theorem zbe {b:Bool} {q:Prop} (h:b = false):¬ (b = true ∧ q):=fun k=>by rw [h] at k;cases k.1
theorem zbf {p:Prop} {a b:BitVec 8} (h:((a.toNat:Nat):Int) ≠ ((b.toNat:Nat):Int)):¬ (p ∧ a = b):=fun k=>h (by rw [k.2])
theorem zWA {c:Bool} {n d:Int} {B:List zX} {x:zX} (h:(zA9 x.id B).isSome = true ∧ ((zA9 x.id B).getD zDB).g = x.g):zUf c n d B x = zba c n d x ((zA9 x.id B).getD zDB):=if_pos h
theorem zSa {c:Bool} {n d:Int} {B:List zX} {x:zX} (h:¬ ((zA9 x.id B).isSome = true ∧ ((zA9 x.id B).getD zDB).g = x.g)):zUf c n d B x = zCC x:=if_neg h
end Go.Sx
/- Slices with an offset that a call owns: elements of one cell. -/
set_option linter.unusedVariables false
set_option linter.unusedSimpArgs false
namespace Go.Sx
open Go.RowKit
variable {P : Program} {ops : Array Oper} {Q : Exit → Act → World → Prop} {rest : List Oper} {n : Nat} {F : List (Nat × Value)} {w0 : World} {S : List Nat} {M : List HA} {a : Act} {w : World}
variable {d : Nat} {ty : TypeId} {pos : String} {af : Array Edge}
def zL7 (v:Value) (e:TypeId) (xs:List Value) (w:World):Prop:=(v = .slice none 0 0 ∧ xs = []) ∨
 ∃ g o cap cur,v = .slice (some ⟨g,o,none⟩) xs.length cap ∧ w.heap[g]? = some (.cells cur e (0,0)) ∧ xs.length ≤ cap ∧ cap ≤ maxLen ∧ o + cap ≤ cur.size ∧ (cur.toList.drop o).take xs.length = xs
def rwo (v:Value) (e:TypeId) (xs:List Value):HA where
 foot:=v.ownBlock.toList
 p w:=zL7 v e xs w
 loc w w' h hp:=by
   rcases hp with hn | ⟨g,o,cap,cur,rfl,hg,rest⟩
   · exact .inl hn
   · refine .inr ⟨g,o,cap,cur,rfl,?_,rest⟩
     rw [h g (by simp [Value.ownBlock])]
     exact hg
 lt w h k hk:=by
   rcases h with ⟨rfl,_⟩ | ⟨g,o,cap,cur,rfl,hg,_⟩
   · simp [Value.ownBlock] at hk
   · have:k = g:=by simpa [Value.ownBlock] using hk
     subst this
     exact (Array.getElem?_eq_some_iff.1 hg).1
theorem zGA (g o j:Nat):(⟨g,o,none⟩ : Addr).add j = ⟨g,o + j,none⟩:=by unfold Addr.add;split <;> simp_all
theorem zNy {w:World} {g o:Nat} {cur:Array Value} {e:TypeId} {fr:Nat × Nat} (hg:w.heap[g]? = some (.cells cur e fr)) (j:Nat):w.cell? ⟨g,j,none⟩ = cur[j]?:=by
 simp [World.cell?,hg]
theorem zVp {v:Value} {e:TypeId} {xs:List Value} (h:zL7 v e xs w):Rd w [] v 1 xs.length xs:=by
 rcases h with ⟨rfl,rfl⟩ | ⟨g,o,cap,cur,rfl,hg,h1,h2,h3,h4⟩
 · exact zNU w [] 1
 · refine ⟨⟨_,cap,rfl,h1,h2⟩,by simp,fun _=>⟨_,cap,rfl,by simp,(Array.getElem?_eq_some_iff.1 hg).1,fun j u hu=>?_⟩⟩
   rw [zGA,zNy (o:=o) hg]
   have hj:j < xs.length:=(List.getElem?_eq_some_iff.1 hu).1
   rw [← h4,List.getElem?_take,if_pos hj,List.getElem?_drop,Array.getElem?_toList] at hu
   exact hu
theorem zOB {v x:Value} {e:TypeId} {xs:List Value} (h:zL7 v e (x :: xs) w):zL7 (zFv v 1 1 (xs.length + 1)) e xs w ∧ (zFv v 1 1 (xs.length + 1)).ownBlock = v.ownBlock:=by
 rcases h with ⟨_,h⟩ | ⟨g,o,cap,cur,rfl,hg,h1,h2,h3,h4⟩
 · cases h
 · simp only [List.length_cons] at h1 h4 ⊢
   by_cases hc:cap = 1
   · subst hc
     have h0:xs = []:=List.eq_nil_of_length_eq_zero (by omega)
     subst h0
     refine ⟨.inr ⟨g,o,0,cur,by simp [zFv],hg,by simp,by simp [maxLen],by omega,by simp⟩,by simp [zFv,Value.ownBlock]⟩
   · refine ⟨.inr ⟨g,o + 1,cap - 1,cur,by simp [zFv,hc,zGA],hg,by omega,by omega,by omega,?_⟩,by simp [zFv,hc,Value.ownBlock,zGA]⟩
     have h5:=congrArg (List.drop 1) h4
     rw [List.drop_take,List.drop_drop] at h5
     simpa using h5
theorem zNG {v x:Value} {e:TypeId} {xs:List Value} (h:zL7 v e (xs ++ [x]) w):zL7 (zFv v 1 0 xs.length) e xs w ∧ (zFv v 1 0 xs.length).ownBlock = v.ownBlock:=by
 rcases h with ⟨_,h⟩ | ⟨g,o,cap,cur,rfl,hg,h1,h2,h3,h4⟩
 · simp at h
 · simp only [List.length_append,List.length_singleton] at h1 h4
   refine ⟨.inr ⟨g,o,cap,cur,by simp [zFv,show ¬ cap = 0 by omega,zGA],hg,by omega,h2,h3,?_⟩,by simp [zFv,show ¬ cap = 0 by omega,Value.ownBlock,zGA]⟩
   have h5:=congrArg (List.take xs.length) h4
   rw [List.take_take,Nat.min_eq_left (by omega)] at h5
   simpa using h5
theorem zIC {v v':Value} {e:TypeId} {xs xs':List Value} (h:zL7 v' e xs' w) (hb:v'.ownBlock = v.ownBlock):Mem w (zN [rwo v e xs]) [rwo v' e xs'] w:=by
 refine ⟨Chg.refl _ _,?_,by cases hv:v'.ownBlock <;> simp [zN,rwo,hv],fun k hk=>.inl (by simpa [zN,rwo,hb] using hk)⟩
 intro y hy
 simp only [List.mem_singleton] at hy
 subst hy
 exact h
theorem St.rwoInit {v x:Value} {e:TypeId} {xs:List Value} {M':List HA} (hs:St n F w0 S M a w) (hb:Del M (rwo v e (xs ++ [x])) M'):St n F w0 S (rwo (zFv v 1 0 xs.length) e xs :: M') a w :=
 hs.frame (.c hb .n) (zIC (zNG (hs.mem.del hb)).1 (zNG (hs.mem.del hb)).2)
theorem zR6 {v:Value} {e:TypeId} {b:Nat} {xs:List Value} (h:w.ownsRow b e 1 v xs.length xs):zL7 v e xs w:=by
 rcases h.2 with ⟨rfl,h0⟩ | ⟨g,cap,cur,rfl,_,hg,h1,h2,h3,h4⟩
 · exact .inl ⟨rfl,List.eq_nil_of_length_eq_zero h0⟩
 · exact .inr ⟨g,0,cap,cur,rfl,hg,h1,h2,by omega,by simpa using h4⟩
theorem zUR {L xs:List Value} {u:Value} (h:L.take xs.length = xs) (hl:xs.length < L.length):(L.set xs.length u).take (xs.length + 1) = xs ++ [u]:=by
 conv=>rhs;rw [← h]
 generalize xs.length = n at *
 rw [List.take_add_one,List.getElem?_set_self hl,List.take_set_of_le (Nat.le_refl _)]
 rfl
theorem zVO {t ty e : TypeId} {i : TypeInfo} {z u : Value} {bytes : Nat} (ht : P.underlying t = some (.slice e)) (hi : P.info? e = some i) (hz : i.zero = some z) (hsize : i.size = 1) (hby : i.bytes = bytes) (hzs : z.cells.size = 1)
   {v:Value} {xs:List Value} (h:zL7 v e xs w) {ad:Addr} {c:Nat} (hnews:∀ j x,[u][j]? = some x → w.cell? (ad.add j) = some x) (h1:u.oneCell' = true)
   (h63:xs.length + 1 ≤ maxLen) (hbytes:(xs.length + 1) * bytes ≤ 140737488355328) :
   ∃ v' w',(Builtin.append_ #[t,t] ty #[v,.slice (some ad) 1 c]).run P w = .ok v' w' ∧ zL7 v' e (xs ++ [u]) w' ∧ w.grownBy w' v.ownBlock ∧ (v'.ownBlock = v.ownBlock ∨ ∃ b,v'.ownBlock = some b ∧ w.heap.size ≤ b):=by
 have h1':∀ x ∈ [u],x.oneCell' = true:=by intro x hx;rw [List.mem_singleton] at hx;rw [hx];exact h1
 have hl:(xs ++ [u]).length = xs.length + 1:=by simp
 rcases h with ⟨rfl,rfl⟩ | ⟨g,o,cap,cur,rfl,hg,a1,a2,a3,a4⟩
 · obtain ⟨v',w',hr,h2,h3,_,h5⟩:=run_append_own_at (P:=P) w 0 t ty e i z 1 bytes ht hi hz hsize hby hzs (by decide) _ 0 [] (World.ownsRow_nil w 0 e 1) ad 1 c [u] rfl hnews h1' h63 hbytes (Nat.zero_le _)
   exact ⟨v',w',hr,zR6 (by simpa using h2),h3,h5.imp id fun h=>⟨_,h,Nat.le_refl _⟩⟩
 · by_cases hroom:xs.length + 1 ≤ cap
   · have hr := run_append_room_cells (P := P) w t ty e i ht hi g o xs.length cap ad 1 c [u] (by simp [hsize]) hnews h1' hroom
       (fun j hj=>by
         have:j = 0:=by simpa using hj
         subst this
         rw [zNy (o:=o) hg,hsize,Nat.mul_one,Nat.add_zero,Array.getElem?_eq_getElem (by omega)];rfl)
       (fun j hj=>by simp [World.frozen?,hg])
     rw [hsize,Nat.mul_one] at hr
     refine ⟨_,_,hr,.inr ⟨g,o,cap,cur.setIfInBounds (o + xs.length) u,by rw [hl],?_,by omega,a2,by simpa using a3,?_⟩,⟨rfl,rfl,rfl,by simp [World.setCells,World.setCell],fun k hk hS=>?_⟩,.inl rfl⟩
     · simp [World.setCells,World.setCell,Array.getElem?_modify,hg]
     · rw [hl,Array.toList_setIfInBounds,List.drop_set,if_neg (by omega),show o + xs.length - o = xs.length by omega]
       exact zUR a4 (by simp;omega)
     · have:¬ g = k:=fun e=>hS (by simp [Value.ownBlock,e])
       simp [World.setCells,World.setCell,Array.getElem?_modify,this]
   · obtain ⟨v', w', hr, h2, h3⟩ := run_append_arg_grows (P := P) w t ty e i z 1 bytes ht hi hz hsize hby hzs (by decide) ⟨g, o, none⟩ xs.length cap xs (by simp)
       (fun j x hx=>(zVp (.inr ⟨g,o,cap,cur,rfl,hg,a1,a2,a3,a4⟩)).at_ (by have:=(List.getElem?_eq_some_iff.1 hx).1;omega) |> fun ⟨ad',c',e',_,_,hcell⟩=>by injection e' with e1 _ _;injection e1 with e1;subst e1;exact hcell j x hx)
       ad 1 c [u] rfl hnews (by omega) h63 hbytes
     have hv:∃ b,v'.ownBlock = some b ∧ w.heap.size ≤ b:=by
       rcases h2.2 with ⟨_,h0⟩ | ⟨g',cap',cur',rfl,hb,hg',_⟩
       · omega
       · exact ⟨g',rfl,hb⟩
     exact ⟨v',w',hr,zR6 (by simpa using h2),⟨h3.os,h3.tape,h3.output,h3.size,fun k hk _=>h3.block k hk (by simp)⟩,.inr hv⟩
theorem zUg {w':World} {v v':Value} {e:TypeId} {xs xs':List Value} (hg:w.grownBy w' v.ownBlock) (ho:zL7 v' e xs' w') (hat:v'.ownBlock = v.ownBlock ∨ ∃ b,v'.ownBlock = some b ∧ w.heap.size ≤ b):Mem w (zN [rwo v e xs]) [rwo v' e xs'] w':=by
 refine ⟨⟨hg.os,hg.tape,hg.output,hg.size,fun k hk hS=>hg.block k hk (fun e=>hS (by simp [zN,rwo,← e]))⟩,?_,by cases hv:v'.ownBlock <;> simp [zN,rwo,hv],fun k hk=>?_⟩
 · intro y hy
   simp only [List.mem_singleton] at hy
   subst hy
   exact ho
 · simp only [zN,rwo,List.flatMap_cons,List.flatMap_nil,List.append_nil,Option.mem_toList] at hk ⊢
   rcases hat with h | ⟨b,h,hb⟩
   · left;rw [← h];exact hk
   · right
     have h2:some k = some b:=hk.symm.trans h
     injection h2 with h2
     omega
theorem zJn {x y : Operand} {v u uv z : Value} {t e : TypeId} {bytes : Nat} {xs : List Value} {T : List Nat} {M' : List HA} {i : TypeInfo}
   (hs:St n F w0 S M a w) (hx:evo F x = some v) (hy:evo F y = some uv) (hb:Del M (rwo v e xs) M') (hr:Rd w T uv 1 1 [u]) (h1:u.oneCell' = true)
   (ht:P.underlying t = some (.slice e)) (hi:P.info? e = some i) (hz:i.zero = some z) (hsize:i.size = 1) (hby:i.bytes = bytes) (hzs:z.cells.size = 1)
   (hbytes:(xs.length + 1) * bytes ≤ 140737488355328) (h63:xs.length + 1 ≤ maxLen) (hd:Nat.blt d n = true)
   (k:∀ v' a w,St n ((d,v') :: F) w0 S (rwo v' e (xs ++ [u]) :: M') a w → wpList P ops Q rest a w) :
   wpList P ops Q (⟨some d,.call { callee:=.builtin .append,args:=#[x,y],argTypes:=#[t,t] },ty,pos,af,none⟩ :: rest) a w:=by
 obtain ⟨ad,c,rfl,_,_,hcell⟩:=hr.at_ (by decide)
 obtain ⟨v',w',hrun,h2,h3,h5⟩:=zVO (P:=P) (w:=w) (ty:=ty) (c:=c) ht hi hz hsize hby hzs (hs.mem.del hb) hcell h1 h63 hbytes
 refine zDc rfl rfl (v:=v') (w':=w') ?_ (k v' _ _ ((hs.frame (.c hb .n) (zUg h3 h2 h5)).put hd v'))
 simp [execOp,resolve,invoke,builtin,hs.ev hx,hs.ev hy,hrun]
theorem St.rerwo {v:Value} {e:TypeId} {xs xs':List Value} {M':List HA} (hs:St n F w0 S M a w) (hb:Del M (rwo v e xs) M') (hx:xs = xs'):St n F w0 S (rwo v e xs' :: M') a w :=
 hs.frame (.c hb .n) (zIC (by rw [← hx];exact hs.mem.del hb) rfl)
/-! ### Numbers -/
def iV (l:List Int):List Value:=l.map (Value.int .i64)
theorem zEO (l:List Int):(iV l).length = l.length:=by simp [iV]
theorem zKz (l:List Int) (j:Nat) (h:j < l.length):(iV l)[j]? = some (.int .i64 (l.getD j 0)):=by
 simp [iV,List.getD_eq_getElem?_getD,List.getElem?_eq_getElem h]
theorem zJD (l:List Int) (x:Int):iV l ++ [.int .i64 x] = iV (l ++ [x]):=by simp [iV]
theorem zRF {l:List Int} (h:((l.length:Nat):Int) = 0):Value.tuple #[.int .i64 0,.bool false] = Value.tuple #[.int .i64 (l.getD 0 0),.bool (decide (0 < l.length))]:=by
 rw [show l = [] from List.eq_nil_of_length_eq_zero (by omega)];rfl
theorem zO5 {l:List Int} (h:¬ ((l.length:Nat):Int) = 0):Value.tuple #[.int .i64 (l.getD 0 0),.bool true] = Value.tuple #[.int .i64 (l.getD 0 0),.bool (decide (0 < l.length))]:=by
 rw [show decide (0 < l.length) = true from decide_eq_true (by omega)]
def zDX (v:Value) (l:List Int) (x:Int):Value:=if l.getD 0 0 = x then zFv v 1 1 l.length else v
def zJt (l:List Int) (x:Int):List Int:=if l.getD 0 0 = x then l.drop 1 else l
theorem zUv {v:Value} {l:List Int} {x:Int} (h:l.getD 0 0 = x):zFv v 1 1 l.length = zDX v l x:=(if_pos h).symm
theorem zUX {v:Value} {l:List Int} {x:Int} (h:¬ l.getD 0 0 = x):v = zDX v l x:=(if_neg h).symm
theorem zNw {v:Value} {e:TypeId} {l:List Int} (x:Int) (hl:0 < l.length) (h:zL7 v e (iV l) w):zL7 (zDX v l x) e (iV (zJt l x)) w ∧ (zDX v l x).ownBlock = v.ownBlock:=by
 unfold zDX zJt
 by_cases hx:l.getD 0 0 = x
 · rw [if_pos hx,if_pos hx]
   cases l with
   | nil=>cases hl
   | cons y t =>
     have:=zOB (v:=v) (x:=.int .i64 y) (xs:=iV t) (e:=e) (by simpa [iV] using h)
     rw [zEO] at this
     exact this
 · rw [if_neg hx,if_neg hx]
   exact ⟨h,rfl⟩
theorem St.rwoDrop {v:Value} {e:TypeId} {l:List Int} {M':List HA} (hs:St n F w0 S M a w) (hb:Del M (rwo v e (iV l)) M') (x:Int) (hl:0 < l.length):St n F w0 S (rwo (zDX v l x) e (iV (zJt l x)) :: M') a w :=
 hs.frame (.c hb .n) (zIC (zNw x hl (hs.mem.del hb)).1 (zNw x hl (hs.mem.del hb)).2)
def zJx (f:Int → Int → Bool) (l:List Int) (x:Int):Nat → Nat
 | 0=>0
 | k + 1=>if f (l.getD k 0) x then zJx f l x k else k + 1
def zD5 (f:Int → Int → Bool) (l:List Int) (x:Int):List Int:=l.take (zJx f l x l.length) ++ [x]
theorem zSf {f:Int → Int → Bool} {l:List Int} {x:Int} {k m:Nat} (h:zJx f l x k = m) (h0:0 < k) (hf:f (l.getD (k - 1) 0) x = true):zJx f l x (k - 1) = m:=by
 obtain ⟨j,rfl⟩ : ∃ j,k = j + 1:=⟨k - 1,by omega⟩
 rw [zJx,show j + 1 - 1 = j from rfl] at *
 rw [if_pos hf] at h
 exact h
theorem zJO {f:Int → Int → Bool} {l:List Int} {x:Int} {k m:Nat} (h:zJx f l x k = m) (hf:k = 0 ∨ f (l.getD (k - 1) 0) x = false):k = m:=by
 rcases Nat.eq_zero_or_pos k with h0 | h0
 · subst h0;exact h
 · obtain ⟨j,rfl⟩ : ∃ j,k = j + 1:=⟨k - 1,by omega⟩
   rcases hf with hf | hf
   · omega
   · rw [show j + 1 - 1 = j from rfl] at hf
     rw [zJx,if_neg (by rw [hf];decide)] at h
     exact h
theorem St.rwoPop {v:Value} {e:TypeId} {l:List Int} {k:Nat} {M':List HA} (hs:St n F w0 S M a w) (hb:Del M (rwo v e (iV (l.take k))) M') (h0:0 < k) (hk:k ≤ l.length):St n F w0 S (rwo (zFv v 1 0 (k - 1)) e (iV (l.take (k - 1))) :: M') a w:=by
 have e1:iV (l.take k) = iV (l.take (k - 1)) ++ [.int .i64 (l.getD (k - 1) 0)]:=by
   rw [zJD]
   congr 1
   rw [List.getD_eq_getElem?_getD,List.getElem?_eq_getElem (by omega)]
   conv=>lhs;rw [show k = (k - 1) + 1 by omega]
   rw [List.take_add_one,List.getElem?_eq_getElem (by omega)]
   rfl
 rw [e1] at hb
 have h2:=hs.rwoInit hb
 rw [zEO,List.length_take,Nat.min_eq_left (by omega)] at h2
 exact h2
theorem zAt {v:Value} {e:TypeId} {l:List Int} {m:Nat} (h:zL7 v e (iV l) w) (hn:l.length = m):Rd w [] v 1 m (iV l):=by
 have:=zVp h
 rw [zEO,hn] at this
 exact this
theorem zYU (l:List Int) (k j:Nat) (hj:j < k) (hk:k ≤ l.length):(iV (l.take k))[j]? = some (.int .i64 (l.getD j 0)):=by
 rw [zKz _ j (by rw [List.length_take];omega)]
 simp only [List.getD_eq_getElem?_getD,List.getElem?_take,if_pos hj]
theorem zYO {v:Value} {e:TypeId} {xs:List Value} (h:(rwo v e xs).p w):Mem w (zN [rwo v e xs]) [rwo v e xs] w:=zIC h rfl
def zS8 (c:Int) (l:List Int) (x:Int):List Int:=(if ((l.length:Nat):Int) = c then l.drop 1 else l) ++ [x]
def wD (c:Int) (l q:List Int):List Int:=if ((l.length:Nat):Int) = c then zJt q (l.getD 0 0) else q
theorem zLJ (q:List Int) (x:Int):(zJt q x).length ≤ q.length:=by unfold zJt;split <;> simp
theorem zLj {v:Value} {m:Nat} (l:List Int) (x:Int) (h:zDm v m):∃ k,zDm (zDX v l x) k:=by
 obtain ⟨A,c,rfl⟩:=h
 unfold zDX
 split
 · exact ⟨_,_,_,rfl⟩
 · exact ⟨_,_,_,rfl⟩
theorem zVX {v:Value} {e:TypeId} {l:List Int} (hl:0 < l.length) (h:zL7 v e (iV l) w):zL7 (zFv v 1 1 l.length) e (iV (l.drop 1)) w ∧ (zFv v 1 1 l.length).ownBlock = v.ownBlock:=by
 cases l with
 | nil=>cases hl
 | cons y t =>
   have:=zOB (v:=v) (x:=.int .i64 y) (xs:=iV t) (e:=e) (by simpa [iV] using h)
   rw [zEO] at this
   exact this
theorem St.rwoTl {v:Value} {e:TypeId} {l:List Int} {M':List HA} (hs:St n F w0 S M a w) (hb:Del M (rwo v e (iV l)) M') (hl:0 < l.length):St n F w0 S (rwo (zFv v 1 1 l.length) e (iV (l.drop 1)) :: M') a w :=
 hs.frame (.c hb .n) (zIC (zVX hl (hs.mem.del hb)).1 (zVX hl (hs.mem.del hb)).2)
end Go.Sx
/- A clock's states: plain mathematics. -/
set_option linter.unusedVariables false
namespace Go.Sx
structure KS where
 l1:List Int
 l2:List Int
 l3:List Int
 s:Int
 t:Int
 b:Int
 j:Int
 now:Int
abbrev gtI : Int → Int → Bool:=fun p q=>decide (q < p)
abbrev ltI : Int → Int → Bool:=fun p q=>decide (p < q)
def KS.off (K:KS):Int:=K.l2.getD 0 0
def zV3 (c:zAF) (K:KS) (x y:Int):KS :=
 let d:=zBP x y
 let m2:=zD5 gtI (wD c.window K.l1 K.l2) d
 let j:=zEV K.j (zBP d (m2.getD 0 0))
 ⟨zS8 c.window K.l1 d,m2,zD5 ltI (wD c.window K.l1 K.l3) d,K.s,K.t,K.b,j,zSs c K.now j⟩
def zRA (K:KS) (x:Int):Int:=zBP (zBP x (K.l2.getD 0 0)) K.now
def zJZ (c:zAF) (K:KS) (x:Int):KS:=if 0 < K.l2.length then { K with s:=sS c.num c.den K.s K.t K.b x (zRA K x),t:=sT K.t K.b x,b:=1 } else K
def kTm (c:zAF) (K:KS) (x:Int):Int:=if 0 < K.l2.length then sS c.num c.den K.s K.t K.b x (zRA K x) else 0
def K0 (c:zAF):KS:=⟨[],[],[],0,0,0,0,zIq c 0⟩
structure KS.ok (c:zAF) (K:KS):Prop where
 h1:((K.l1.length:Nat):Int) ≤ c.window
 s2:K.l2.Sublist K.l1
 s3:K.l3.Sublist K.l1
 h0:0 < K.l1.length → 0 < K.l2.length ∧ 0 < K.l3.length
 r:∀ x ∈ K.l1,R64 x
 s:R64 K.s
 t:R64 K.t
 j:R64 K.j
 now:c.least ≤ K.now ∧ K.now ≤ c.most
theorem zaJ {c:Int} {l q:List Int} (h:q.Sublist l):(wD c l q).Sublist (if ((l.length:Nat):Int) = c then l.drop 1 else l):=by
 unfold wD
 split
 · unfold zJt
   cases l with
   | nil=>have:=List.sublist_nil.1 h;subst this;simp
   | cons y l =>
     cases q with
     | nil=>simp
     | cons z q =>
       show List.Sublist (if (z :: q).getD 0 0 = (y :: l).getD 0 0 then (z :: q).drop 1 else z :: q) l
       by_cases hz:z = y
       · rw [if_pos (by simpa using hz)]
         subst hz
         simpa using h
       · rw [if_neg (by simpa using hz)]
         cases h with
         | cons _ h=>exact h
         | cons_cons _ h=>exact absurd rfl hz
 · exact h
theorem zQS {f:Int → Int → Bool} {q l:List Int} {x:Int} (h:q.Sublist l):(zD5 f q x).Sublist (l ++ [x]):=by
 unfold zD5
 exact List.Sublist.append ((List.take_sublist _ _).trans h) (List.Sublist.refl _)
theorem zLE (f:Int → Int → Bool) (q:List Int) (x:Int):0 < (zD5 f q x).length:=by unfold zD5;simp
theorem zOQ {c:Int} {l:List Int} {x y:Int} (h:y ∈ zS8 c l x):y ∈ l ∨ y = x:=by
 unfold zS8 at h
 rcases List.mem_append.1 h with h | h
 · left
   split at h
   · exact List.mem_of_mem_drop h
   · exact h
 · right;simpa using h
theorem zJh {l:List Int} (h:∀ x ∈ l,R64 x):R64 (l.getD 0 0):=by
 cases l with
 | nil=>show R64 0;omega
 | cons x l=>exact h x (by simp)
theorem KS.ok.r2 {c:zAF} {K:KS} (h:K.ok c):∀ x ∈ K.l2,R64 x:=fun x hx=>h.r x (h.s2.subset hx)
theorem zMS {c:zAF} {K:KS} (h:K.ok c) (x:Int) (f:Int → Int → Bool) {q:List Int} (hq:q.Sublist K.l1):(zD5 f (wD c.window K.l1 q) x).Sublist (zS8 c.window K.l1 x):=zQS (zaJ hq)
theorem zXc {c:zAF} {K:KS} (h:K.ok c) {d:Int} (hd:R64 d):R64 ((zD5 gtI (wD c.window K.l1 K.l2) d).getD 0 0):=by
 refine zJh fun y hy=>?_
 rcases zOQ ((zMS h d gtI h.s2).subset hy) with h1 | h1
 · exact h.r y h1
 · rw [h1];exact hd
theorem zQU {x y:Int} (hx:R64 x) (hy:R64 y):R64 (zEV x y):=by
 have:=zSH hx.2 hy.2
 omega
theorem zW1 {c:zAF} {K:KS} {x y:Int} (hk:zCj c = 0) (h:K.ok c):(zV3 c K x y).ok c:=by
 obtain ⟨⟨_,_,hw,_⟩,hd,_⟩:=zFb hk
 have hdr:R64 (zBP x y):=zB8 _ _
 refine ⟨?_,zMS h _ _ h.s2,zMS h _ _ h.s3,fun _=>⟨zLE _ _ _,zLE _ _ _⟩,fun z hz=>?_,h.s,h.t,?_,?_⟩
 · show (((zS8 c.window K.l1 (zBP x y)).length:Nat):Int) ≤ c.window
   unfold zS8
   have:=h.h1
   split
   · simp only [List.length_append,List.length_drop,List.length_singleton];omega
   · simp only [List.length_append,List.length_singleton];omega
 · rcases zOQ hz with h1 | h1
   · exact h.r z h1
   · rw [h1];exact hdr
 · exact zQU h.j (zB8 _ _)
 · exact zUH hd h.now
theorem zbX {b x y:Int} (hx:R64 x) (hy:R64 y):R64 (sP b x y):=by unfold sP;split <;> assumption
theorem zSi {c:zAF} {K:KS} {x:Int} (hx:R64 x) (h:K.ok c):(zJZ c K x).ok c:=by
 unfold zJZ
 split
 · have hw:R64 (zRA K x):=zB8 _ _
   have h1:=zbX (b:=K.b) hw h.s
   have h2:=zbX (b:=K.b) hx h.t
   refine ⟨h.h1,h.s2,h.s3,h.h0,h.r,?_,?_,h.j,h.now⟩
   · show R64 (sS _ _ _ _ _ _ _)
     unfold sS sS1
     have:=zKJ (sP K.b (zRA K x) K.s) (zD7 (zBP (max x (sP K.b x K.t)) (sP K.b x K.t)) c.num c.den)
     omega
   · show R64 (sT _ _ _)
     unfold sT
     omega
 · exact h
theorem zbE {c:zAF} (hk:zCj c = 0):(K0 c).ok c:=by
 obtain ⟨⟨_,_,hw,_⟩,hd,_⟩:=zFb hk
 exact ⟨by show (0:Int) ≤ _;omega,List.Sublist.refl _,List.Sublist.refl _,fun h=>absurd h (Nat.lt_irrefl 0),fun x hx=>(by cases hx),by show R64 0;omega,by show R64 0;omega,by show R64 0;omega,zJw hd⟩
theorem St.addO {n:Nat} {F:List (Nat × Value)} {w0 w:World} {S:List Nat} {M:List HA} {a:Act} (hs:St n F w0 S M a w) (e:TypeId):St n F w0 S (rwo (.slice none 0 0) e (iV []) :: M) a w:=by
 refine hs.frame (N:=[rwo (.slice none 0 0) e (iV [])]) .n ⟨Chg.refl _ _,?_,by simp [zN,rwo,Value.ownBlock],by simp [zN,rwo,Value.ownBlock]⟩
 intro h hh
 simp only [List.mem_singleton] at hh
 subst hh
 exact .inl ⟨rfl,rfl⟩
structure KP where
 k:Nat
 wg:Nat
 sg:Nat
 jg:Nat
 dg:Nat
 v1:Value
 v2:Value
 v3:Value
 cn:Int
 ch:Int
def KP.on (p:KP) (k:Nat):KP:={ p with k:=k }
end Go.Sx
/- The client: plain mathematics. -/
set_option linter.unusedVariables false
set_option linter.unusedSimpArgs false
namespace Go.Sx
/-! ### What is kept is of numbers of 64 bits -/
def Wfs (l:List zAE):Prop:=∀ s ∈ l,∀ e ∈ s.l,e.wf
theorem zNn {r:zAB} (h:r.wf):(zFt r).wf:=⟨h.id,h.p0,h.p1,h.p2,h.v0,h.v1,h.v2⟩
theorem zMv {a:zX} {r:zAB} (ha:a.wf) (h:r.wf):(zS a r).1.wf:=by
 unfold zS
 split
 · exact zMM
 · split
   · exact zMM
   · split
     · exact ⟨ha.id,h.p0,h.p1,h.p2,h.v0,h.v1,h.v2⟩
     · exact ⟨ha.id,zC7 _,zC7 _,zC7 _,zC7 _,zC7 _,zC7 _⟩
theorem zKf {x:zX} {l:List zX} (hx:x.wf) (h:∀ e ∈ l,e.wf):∀ e ∈ x :: l,e.wf:=by
 intro e he;rcases List.mem_cons.1 he with h1 | h1
 · rw [h1];exact hx
 · exact h e h1
theorem zaA : ∀ (n:Nat) (was:List zX) (l:List zAB),was.length + l.length ≤ n → (∀ e ∈ was,e.wf) → (∀ r ∈ l,r.wf) → ∀ out,apl was l = some out → ∀ e ∈ out,e.wf:=by
 intro n
 induction n with
 | zero =>
   intro was l hn hw hl out h
   cases l with
   | nil=>rw [zKS] at h;cases h;exact hw
   | cons r l=>simp at hn
 | succ n ih =>
   intro was l hn hw hl out h
   cases l with
   | nil=>rw [zKS] at h;cases h;exact hw
   | cons r l =>
     have hr:=hl r (by simp)
     have hl2:∀ r ∈ l,r.wf:=fun x hx=>hl x (by simp [hx])
     cases was with
     | nil =>
       unfold apl at h
       split at h
       · rw [Option.map_eq_some_iff] at h
         obtain ⟨o,h1,rfl⟩:=h
         exact zKf (zNn hr) (ih [] l (by simp at hn ⊢;omega) hw hl2 o h1)
       · cases h
     | cons x was =>
       have hx:=hw x (by simp)
       have hw2:∀ e ∈ was,e.wf:=fun e he=>hw e (by simp [he])
       simp only [List.length_cons] at hn
       unfold apl at h
       split at h
       · rw [Option.map_eq_some_iff] at h
         obtain ⟨o,h1,rfl⟩:=h
         exact zKf hx (ih was (r :: l) (by simp only [List.length_cons];omega) hw2 hl o h1)
       · split at h
         · split at h
           · cases h
           · split at h
             · exact ih was l (by omega) hw2 hl2 out h
             · rw [Option.map_eq_some_iff] at h
               obtain ⟨o,h1,rfl⟩:=h
               exact zKf (zMv hx hr) (ih was l (by omega) hw2 hl2 o h1)
         · split at h
           · rw [Option.map_eq_some_iff] at h
             obtain ⟨o,h1,rfl⟩:=h
             exact zKf (zNn hr) (ih (x :: was) l (by simp only [List.length_cons];omega) hw hl2 o h1)
           · cases h
theorem zbD {at_ atm:Int} {a:List zX} {gt gtm gb:Int} {rl:List zAB} (ha:∀ e ∈ a,e.wf) (hr:∀ r ∈ rl,r.wf):∀ e ∈ (aS at_ atm a gt gtm gb rl).l,e.wf:=by
 unfold aS
 split
 · intro e he
   cases ho:apl (zEg gb a) rl with
   | none=>rw [ho] at he;simp at he
   | some o =>
     rw [ho] at he
     refine zaA _ _ _ (Nat.le_refl _) (fun e he=>?_) hr o ho e he
     unfold zEg at he
     split at he
     · exact ha e he
     · cases he
 · intro e he;cases he
theorem zXl {l:List zAE} (h:Wfs l) (k:Int):∀ e ∈ (zFB l k).l,e.wf:=by
 unfold zFB
 split
 · rename_i hk
   rw [List.getD_eq_getElem?_getD]
   cases ho:l[zAR l k]? with
   | none=>intro e he;cases he
   | some s=>exact h s (List.mem_of_getElem? ho)
 · intro e he;cases he
theorem zUL {l:List zAE} {most:Nat} {x:zAE} (h:Wfs l) (hx:∀ e ∈ x.l,e.wf):Wfs (zF6 l most x):=by
 have hk:Wfs (zBl l (zAR l x.t) x):=by
   intro s hs
   unfold zBl at hs
   rcases List.mem_append.1 hs with h1 | h1
   · exact h s (List.mem_of_mem_take h1)
   · rcases List.mem_cons.1 h1 with h2 | h2
     · rw [h2];exact hx
     · exact h s (List.mem_of_mem_drop h2)
 unfold zF6
 split
 · exact hk
 · exact fun s hs=>hk s (List.mem_of_mem_drop hs)
theorem zYc {most:Nat} {σ:Stt} {bs:List zP} (h:Wfs σ.l):Wfs (zBU most σ (zA bs)).l:=by
 unfold zBU
 split
 · exact zUL h (zbD (zXl h _) (zKX bs))
 · exact h
/-! ### What is shown, of snapshots as such -/
def zbd (s:zAE):RI:=⟨s.t,s.tm,s.l,.slice none 0 0⟩
def riF (x:RI):RI:=zbd x.sn
def zCV (c:zAF) (l:List zAE) (t:Int):List zFq × Nat:=zEA c (l.map zbd) t
theorem zbT (L:List RI):tms (L.map riF) = tms L:=by unfold tms;rw [List.map_map];rfl
theorem zPi : ∀ L:List RI,zEW (L.map riF) = zEW L
 | []=>rfl
 | x :: L=>by
   show (if _ then _ else zEW (L.map riF)) = _
   rw [zPi L];rfl
theorem zRp (L:List RI) (i:Nat):(L.map riF).getD i default = riF (L.getD i default):=by
 rw [List.getD_eq_getElem?_getD,List.getD_eq_getElem?_getD,List.getElem?_map]
 cases L[i]? <;> rfl
theorem zVb (L:List RI) (t:Int):∀ k,zJk (L.map riF) t k = zJk L t k
 | 0=>rfl
 | k + 1=>by unfold zJk;rw [zVb L t k,zRp,List.length_map];rfl
theorem zXk (L:List RI) (t:Int):zBH (L.map riF) t = zBH L t:=by unfold zBH;rw [zbT,zVb,List.length_map]
theorem zQd (c:zAF) (L:List RI):zFT c (L.map riF) = zFT c L:=by unfold zFT;rw [zPi]
theorem zSA (c:zAF) (x:RI) (t:Int):zEH c (riF x) t = zEH c x t:=by
 have h:=zQd c [x]
 unfold zEH;rw [show [riF x] = [x].map riF from rfl,h];rfl
theorem zYd (c:zAF) (x:RI) (t:Int):zDb c (riF x) t = zDb c x t:=by unfold zDb;rw [zSA];rfl
theorem zPp (c:zAF) (x y:RI) (t:Int):zEK c (riF x) (riF y) t = zEK c x y t:=by
 have h:=zQd c [x,y]
 unfold zEK;rw [show [riF x,riF y] = [x,y].map riF from rfl,h];rfl
theorem zWo (c:zAF) (x y:RI) (t:Int):zDo c (riF x) (riF y) t = zDo c x y t:=by unfold zDo;rw [zPp];rfl
theorem zYV (c:zAF) (L:List RI) (t:Int):zEA c (L.map riF) t = zEA c L t:=by
 unfold zEA;rw [zQd,zXk,zRp,zRp,zYd,zSA,zWo,zPp]
theorem zTI (c:zAF) (L:List RI) (t:Int):zEA c L t = zCV c (sns L) t:=by
 unfold zCV;rw [sns,List.map_map];exact (zYV c L t).symm
/-! ### States -/
structure CS where
 σ:Stt
 K:KS
 fr:Nat
structure ShR where
 ready:Bool
 time:Int
 l:List zFq
def zAF.keep (c:zAF):Nat:=c.ring.toNat
def zBz (c:zAF) (C:CS) (G:zBk):Nat:=zBG C.σ.l c.keep C.σ.floor C.σ.gone G
def zMp (c:zAF) (C:CS) (G:zBk):Int:=(zFB (zBU c.keep C.σ G).l (zI9 C.σ.l c.keep C.σ.floor C.σ.gone G)).tm
def zBC (c:zAF) (C:CS) (x:Int) (G:zBk):CS:=⟨zBU c.keep C.σ G,if zBz c C G = 0 then zV3 c C.K x (zMp c C G) else C.K,C.fr⟩
def zQn (c:zAF) (C:CS) (x:Int):CS:=⟨C.σ,zJZ c C.K x,C.fr + 1⟩
def zCX (c:zAF) (C:CS) (x:Int):ShR:=if 0 < C.K.l2.length then ⟨true,kTm c C.K x,(zCV c C.σ.l (kTm c C.K x)).1⟩ else ⟨false,0,[]⟩
def C0 (c:zAF):CS:=⟨zVZ,K0 c,0⟩
structure CS.ok (c:zAF) (C:CS):Prop where
 k:C.K.ok c
 wf:Wfs C.σ.l
theorem zYE {c:zAF} (hk:zCj c = 0):(C0 c).ok c:=⟨zbE hk,fun s hs=>by cases hs⟩
theorem zDS {c:zAF} {C:CS} {x:Int} {bs:List zP} (hk:zCj c = 0) (h:C.ok c):(zBC c C x (zA bs)).ok c:=by
 refine ⟨?_,zYc h.wf⟩
 show KS.ok c (if _ then _ else _)
 split
 · exact zW1 hk h.k
 · exact h.k
theorem zYn {c:zAF} {C:CS} {x:Int} (hx:R64 x) (h:C.ok c):(zQn c C x).ok c:=⟨zSi hx h.k,h.wf⟩
instance : Inhabited KP:=⟨⟨0,0,0,0,0,.slice none 0 0,.slice none 0 0,.slice none 0 0,0,0⟩⟩
theorem za8 {c:zAF} {K:KS} {x:Int} (hx:R64 x) (h:K.ok c):R64 (kTm c K x):=by
 have h1:=(zSi hx h).s
 unfold zJZ at h1
 unfold kTm
 split at h1
 · rename_i hq;rw [if_pos hq];exact h1
 · rename_i hq;rw [if_neg hq];show R64 0;omega
theorem zXX {L:List RI} {l:List zAE} {j:Nat} {v:Value} (h:sns L = l.take j) (hj:j < l.length):sns (L ++ [(⟨(sat l (j:Int)).t,(sat l (j:Int)).tm,(sat l (j:Int)).l,v⟩ : RI)]) = l.take (j + 1):=by
 have hs:sat l (j:Int) = l[j]:=by
   unfold sat
   rw [if_pos (by omega),Int.toNat_natCast,List.getD_eq_getElem?_getD,List.getElem?_eq_getElem hj];rfl
 have h2:sns (L ++ [(⟨(sat l (j:Int)).t,(sat l (j:Int)).tm,(sat l (j:Int)).l,v⟩ : RI)]) = sns L ++ [sat l (j:Int)]:=by unfold sns;rw [List.map_append];rfl
 rw [h2,h,hs,List.take_succ_eq_append_getElem hj]
theorem zVA {L:List RI} {j:Nat} (h:j < L.length):iV ((L.take j).map RI.t) ++ [.int .i64 (L.getD j default).t] = iV ((L.take (j + 1)).map RI.t):=by
 rw [zJD,List.take_succ_eq_append_getElem h,List.map_append,List.getD_eq_getElem?_getD,List.getElem?_eq_getElem h];rfl
theorem zS4 {L:List RI} {l:List zAE} (h:sns L = l):L.map RI.t = l.map zAE.t:=by subst h;unfold sns;rw [List.map_map];rfl
theorem zPe {c:zAF} (hk:zCj c = 0):((c.keep:Nat):Int) = c.ring ∧ 1 ≤ c.keep ∧ c.keep ≤ 64:=by
 obtain ⟨⟨h1,h2,_,_⟩,_⟩:=zFb hk
 unfold zAF.keep
 omega
theorem Mem.resep {w w':World} {S:List Nat} {A B:List HA} (h:Mem w S (A ++ B) w'):Mem w S (A ++ [zGL B]) w':=by
 obtain ⟨h1,h2,h3⟩:=Mem.parts h
 refine ⟨h.chg,fun y hy=>?_,h3,by rw [zD4];exact h.ge⟩
 rcases List.mem_append.1 hy with e | e
 · exact h1 y e
 · rw [List.mem_singleton] at e;rw [e];exact h2
theorem Mem.wide {w w':World} {S:List Nat} {N:List HA} (h:Mem w [] N w'):Mem w S N w':=⟨⟨h.chg.os,h.chg.tape,h.chg.output,h.chg.size,fun k hk _=>h.chg.block k hk (by simp)⟩,h.all,h.nd,fun k hk=>(h.ge k hk).elim (fun h=>by cases h) .inr⟩
theorem zZe {e:Nat} {L:List RI} {w:World} {most:Nat} (h:(rws e L).p w) (ho:Oks (sns L) most) (hw:Wfs (sns L)):∀ x ∈ L,x.ok w:=by
 intro x hx
 have hm:x.sn ∈ sns L:=List.mem_map.2 ⟨x,hx,rfl⟩
 obtain ⟨h1,h2,h3,h4,h5⟩:=ho.rng x.sn hm
 exact ⟨⟨by have:(0:Int) ≤ x.t:=h1;omega,by have:x.t ≤ 4294967295:=h2;omega⟩,⟨h3,h4⟩,zEP h (.inl hx),hw x.sn hm⟩
end Go.Sx
/- The client's example: plain mathematics. -/
set_option linter.unusedVariables false
namespace Go.Sx
section
open Go.RowKit
variable {P : Program} {ops : Array Oper} {Q : Exit → Act → World → Prop} {rest : List Oper} {n : Nat} {F : List (Nat × Value)} {w0 : World} {S : List Nat} {M : List HA} {a : Act} {w : World} {d : Nat} {ty : TypeId} {pos : String} {af : Array Edge}
theorem zaN {x i : Operand} {v : Value} {t e : TypeId} {j o len size m sz : Nat} {T : List Nat} {xs : List Value} {kd : IntKind} {q : Int} (hs : St n F w0 S M a w) (hx : evo F x = some (.pointer (some (adr v j)))) (hi : evo F i = some (.int kd q)) (hr : Rd w T v size m xs) (hm : 0 < m) (ht : P.underlying t = some (.array len e))
   (h0:0 ≤ q) (h1:q < len) (hsz:∀ w,(sizeOf e).run P w = .ok sz w) (ho:j + q.toNat * sz = o) (hd:Nat.blt d n = true)
   (k:∀ a w,St n ((d,.pointer (some (adr v o))) :: F) w0 S M a w → wpList P ops Q rest a w):wpList P ops Q (⟨some d,.indexAddr t x i,ty,pos,af,none⟩ :: rest) a w:=by
 subst ho
 have ha:(adr v j).add (q.toNat * sz) = adr v (j + q.toNat * sz):=by rw [zMr hr hm]
 have hb:0 ≤ q ∧ q < (len:Int):=⟨h0,h1⟩
 exact zM hs (by simp [execOp,Instr.indexAt,Instr.sureAddr,asIntOf,hs.ev hx,hs.ev hi,run_underlying ht,hb,hsz,ha]) hd k
end
def exC : zAF:=⟨4,4,0,0,0,0,0,1,1,0,false⟩
def exR (pl:Int):zAB:=⟨0,1,pl,0,0,0,0,0,0#16⟩
def exB (t tm pl:Int):List zP:=gwB t tm (-1) [exR pl]
theorem zSp {pl:Int} (h:R64 pl):∀ x ∈ [exR pl],x.wf:=by
 intro x hx;rw [List.mem_singleton] at hx;rw [hx]
 exact ⟨(by show R64 0;omega),(by show R64 1;omega),h,(by show R64 0;omega),(by show R64 0;omega),(by show R64 0;omega),(by show R64 0;omega),(by show R64 0;omega)⟩
theorem zXo : zCj exC = 0:=by decide +kernel
theorem zYb : zA (exB 1 0 0) = ⟨1,0,-1,[exR 0],0⟩:=zIZ (zSp (by omega)) (by decide +kernel)
theorem zaf : zA (exB 2 10 10) = ⟨2,10,-1,[exR 10],0⟩:=zIZ (zSp (by omega)) (by decide +kernel)
def zXg : CS:=zBC exC (C0 exC) 0 (zA (exB 1 0 0))
def zay : CS:=zBC exC zXg 10 (zA (exB 2 10 10))
theorem zbl : zBz exC (C0 exC) (zA (exB 1 0 0)) = 0:=by rw [zYb];decide +kernel
theorem zbm : zBz exC zXg (zA (exB 2 10 10)) = 0:=by unfold zXg;rw [zYb,zaf];decide +kernel
theorem zbo : zCX exC zay 5 = ⟨true,5,[⟨1,5,0,0,0#16,1⟩]⟩:=by unfold zay zXg;rw [zYb,zaf];kernel_rfl
theorem zVi : (C0 exC).ok exC:=zYE zXo
theorem zV1 : zXg.ok exC:=zDS zXo zVi
theorem zaC : zay.ok exC:=zDS zXo zV1
theorem zET (c:zAF) (C:CS) (x:Int) (G:zBk) (i:Nat):(zBC c C x G).σ.n i ≤ C.σ.n i + 1:=by
 show (zBU _ _ _).n i ≤ _
 unfold zBU
 split <;> (show zA8 _ _ i ≤ _;unfold zA8;split <;> omega)
end Go.Sx
/- Rows' arguments: configs, events. -/
set_option linter.unusedVariables false
set_option linter.unusedSimpArgs false
namespace Go.Sx
open Go.RowKit Go.ChangeShapes Go.WideShapes
variable {W : World}
theorem zbC {c:List Value} (h:AllK W c [.i .u8]):∃ b:zP,c = [zLV b]:=by
 obtain ⟨u,us,rfl,h1,h2⟩:=h.split
 rw [h2.none]
 cases h1 with
 | i w =>
   obtain ⟨X,hX⟩:=zIK w
   exact ⟨X,by rw [hX];rfl⟩
theorem zSo {α:Type} (f:α → Value):∀ (l:List α),(l.flatMap fun x=>[f x]) = l.map f
 | []=>rfl
 | a :: l=>by simp [zSo f l]
def zbn (c:zAF):List Value:=[.int .i64 c.ring,.int .i64 c.window,.int .i64 c.base,.int .i64 c.gain,.int .i64 c.least,.int .i64 c.most,.int .i64 c.slack,.int .i64 c.num,.int .i64 c.den,.int .i64 c.extra,.bool c.curve]
theorem OneK.boo {v:Value} (h:OneK W v .b):∃ b:Bool,v = .bool b:=by cases h;exact ⟨_,rfl⟩
theorem zab {cs:List Value} (h:AllK W cs [.i .i64,.i .i64,.i .i64,.i .i64,.i .i64,.i .i64,.i .i64,.i .i64,.i .i64,.i .i64,.b]):∃ c:zAF,cs = zbn c:=by
 obtain ⟨_,_,rfl,h1,h⟩:=h.split
 obtain ⟨_,_,rfl,h2,h⟩:=h.split
 obtain ⟨_,_,rfl,h3,h⟩:=h.split
 obtain ⟨_,_,rfl,h4,h⟩:=h.split
 obtain ⟨_,_,rfl,h5,h⟩:=h.split
 obtain ⟨_,_,rfl,h6,h⟩:=h.split
 obtain ⟨_,_,rfl,h7,h⟩:=h.split
 obtain ⟨_,_,rfl,h8,h⟩:=h.split
 obtain ⟨_,_,rfl,h9,h⟩:=h.split
 obtain ⟨_,_,rfl,h10,h⟩:=h.split
 obtain ⟨_,_,rfl,h11,h⟩:=h.split
 obtain rfl:=h.none
 obtain ⟨z1,rfl,_⟩:=h1.i64
 obtain ⟨z2,rfl,_⟩:=h2.i64
 obtain ⟨z3,rfl,_⟩:=h3.i64
 obtain ⟨z4,rfl,_⟩:=h4.i64
 obtain ⟨z5,rfl,_⟩:=h5.i64
 obtain ⟨z6,rfl,_⟩:=h6.i64
 obtain ⟨z7,rfl,_⟩:=h7.i64
 obtain ⟨z8,rfl,_⟩:=h8.i64
 obtain ⟨z9,rfl,_⟩:=h9.i64
 obtain ⟨z10,rfl,_⟩:=h10.i64
 obtain ⟨b,rfl⟩:=h11.boo
 exact ⟨⟨z1,z2,z3,z4,z5,z6,z7,z8,z9,z10,b⟩,rfl⟩
structure EvR where
 k:Int
 at_:Int
 v:Value
 bs:List zP
instance : Inhabited EvR:=⟨⟨0,0,.slice none 0 0,[]⟩⟩
def evV (x:EvR):List Value:=[.int .i64 x.k,.int .i64 x.at_,x.v]
theorem zKC (x:EvR):(evV x).length = 3:=rfl
structure EvR.ok (W:World) (x:EvR):Prop where
 k:R64 x.k
 at_:R64 x.at_
 rd:Rd W [] x.v 1 x.bs.length (zD x.bs)
theorem zaz {c:List Value} (h:AllK W c [.i .i64,.i .i64,.s 1 [.i .u8]]):∃ x:EvR,c = evV x ∧ x.ok W:=by
 obtain ⟨_,_,rfl,h1,h⟩:=h.split
 obtain ⟨_,_,rfl,h2,h⟩:=h.split
 obtain ⟨_,_,rfl,h3,h⟩:=h.split
 obtain rfl:=h.none
 obtain ⟨z1,rfl,w1⟩:=h1.i64
 obtain ⟨z2,rfl,w2⟩:=h2.i64
 obtain ⟨len,f,hf,hr⟩:=h3.sl
 obtain ⟨bs,hl,he⟩:=zRK (g:=fun b:zP=>[zLV b]) len fun i hi=>zbC (hf i hi)
 rw [he,zSo] at hr
 rw [← hl] at hr
 exact ⟨⟨z1,z2,_,bs⟩,rfl,⟨w1,w2,hr⟩⟩
theorem zUk {H : Type} {enc : TypeId × Value → H} {P : Program} {t e : TypeId} {a : Option Addr} {len cap m : Nat} {dd : DataW H} {p : List MemPlace} (hu : P.underlying t = some (.slice e)) (hk : zGN P m t = some [.s 3 [.i .i64, .i .i64, .s 1 [.i .u8]]]) (h : DataW.Trod enc P W 0 (fun _ => true) true t (.slice a len cap) dd p) :
   ∃ L:List EvR,Rd W [] (.slice a len cap) 3 L.length (L.flatMap evV) ∧ ∀ x ∈ L,x.ok W:=by
 obtain ⟨f,hf,hr⟩:=zMk hu hk h
 obtain ⟨l,hl,he,hp⟩:=zM4 (g:=evV) (p:=fun x:EvR=>x.ok W) len fun i hi=>zaz (hf i hi)
 subst hl
 rw [he] at hr
 exact ⟨l,hr,hp⟩
end Go.Sx
/- A client's counts: plain mathematics. -/
set_option linter.unusedVariables false
namespace Go.Sx
theorem zG6 {l:List EvR} {i:Nat} (h:i < l.length):l.getD i default ∈ l:=by
 rw [List.getD_eq_getElem?_getD,List.getElem?_eq_getElem h];exact List.getElem_mem h
end Go.Sx
/- Maps of functions; what an event does to a client. -/
set_option linter.unusedVariables false
set_option linter.unusedSimpArgs false
namespace Go.Sx
open Go.RowKit
section
variable {P : Program} {ops : Array Oper} {Q : Exit → Act → World → Prop} {rest : List Oper} {n : Nat} {F : List (Nat × Value)} {w0 : World} {S : List Nat} {M : List HA} {a : Act} {w : World} {d : Nat} {ty : TypeId} {pos : String} {af : Array Edge}
theorem zI2 {t kt e : TypeId} {m x y : Operand} {g : Nat} {k : Int} {u : Value} {kv kv' : List (Int × Value)} {M' : List HA} (hs : St n F w0 S M a w) (hm : evo F m = some (.map (some g))) (hx : evo F x = some (.int .i64 k)) (hy : evo F y = some u) (hb : Del M (mpr g kv) M')
   (ht:P.underlying t = some (.map kt e)) (hkt:P.underlying kt = some (.int .i64)) (he:zNH k u kv = kv')
   (c:∀ a w,St n F w0 S (mpr g kv' :: M') a w → wpList P ops Q rest a w):wpList P ops Q (⟨none,.insert t m x y,ty,pos,af,none⟩ :: rest) a w:=by
 subst he
 obtain ⟨w',hr,hw⟩:=zQI (hs.mem.del hb) ht hkt (k:=k) (u:=u)
 exact zH9 rfl rfl (by simp [execOp,hs.ev hm,hs.ev hx,hs.ev hy,hr]) (c _ _ (hs.frame (.c hb .n) hw))
theorem zJ0 {t kt e : TypeId} {m x : Operand} {g : Nat} {k : Int} {kv : List (Int × Value)} {z v : Value} {b : Bool} {M' : List HA} (hs : St n F w0 S M a w) (hm : evo F m = some (.map (some g))) (hx : evo F x = some (.int .i64 k)) (hb : Del M (mpr g kv) M')
   (ht:P.underlying t = some (.map kt e)) (hkt:P.underlying kt = some (.int .i64)) (hz:∀ w,(zeroValue e).run P w = .ok z w) (hv:(zHm k kv).getD z = v) (hq:(zHm k kv).isSome = b) (hd:Nat.blt d n = true)
   (c:∀ a w,St n ((d,.tuple #[v,.bool b]) :: F) w0 S M a w → wpList P ops Q rest a w):wpList P ops Q (⟨some d,.lookup t m x true,ty,pos,af,none⟩ :: rest) a w:=by
 subst hv hq
 exact zQo hs hm hx hb ht hkt hz hd c
end
theorem zNW {k:Int} {a b:Value} (h0:k ≠ 0) (h1:k ≠ 1):zHm k [(0,a),(1,b)] = none:=by
 simp only [zHm]
 rw [if_neg (fun h=>h0 h.symm),if_neg (fun h=>h1 h.symm)]
def cDo (c:zAF) (C:CS) (e:EvR):CS:=if e.k = 0 then zBC c C e.at_ (zA e.bs) else if e.k = 1 then zQn c C e.at_ else C
def zIx (c:zAF) (C:CS) (e:EvR):ShR:=if e.k = 1 then zCX c C e.at_ else ⟨false,0,[]⟩
def zFS (c:zAF) (C:CS) (e:EvR):Nat:=if e.k = 0 then zBz c C (zA e.bs) else if e.k = 1 then 0 else 11
theorem zB4 {c:zAF} {C:CS} {e:EvR} (hk:zCj c = 0) (he:R64 e.at_) (h:C.ok c):(cDo c C e).ok c:=by
 unfold cDo
 split
 · exact zDS hk h
 · split
   · exact zYn he h
   · exact h
theorem zDn (c:zAF) (C:CS) (e:EvR) (i:Nat):(cDo c C e).σ.n i ≤ C.σ.n i + 1:=by
 unfold cDo
 split
 · exact zET _ _ _ _ i
 · split
   · exact Nat.le_succ _
   · exact Nat.le_succ _
theorem zZM (c:zAF) (C:CS) (e:EvR):(cDo c C e).fr = C.fr + (if e.k = 1 then 1 else 0):=by
 unfold cDo
 split
 · rename_i h;rw [if_neg (by omega)];rfl
 · split <;> rfl
theorem zB7 (c:zAF) (C:CS) (e:EvR):(cDo c C e).fr ≤ C.fr + 1:=by rw [zZM];split <;> omega
end Go.Sx
/- A client with frames, beside one without: plain mathematics. -/
set_option linter.unusedVariables false
namespace Go.Sx
structure zLs (C D:CS):Prop where
 σ:C.σ = D.σ
 l1:C.K.l1 = D.K.l1
 l2:C.K.l2 = D.K.l2
 l3:C.K.l3 = D.K.l3
 j:C.K.j = D.K.j
 now:C.K.now = D.K.now
theorem zLs.refl (C:CS):zLs C C:=⟨rfl,rfl,rfl,rfl,rfl,rfl⟩
theorem zLs.off {C D:CS} (h:zLs C D):C.K.off = D.K.off:=by unfold KS.off;rw [h.l2]
theorem zLs.frm {C D:CS} (h:zLs C D) (c:zAF) (x:Int):zLs (zQn c C x) D:=by
 obtain ⟨h1,h2,h3,h4,h5,h6⟩:=h
 unfold zQn zJZ
 split <;> exact ⟨h1,h2,h3,h4,h5,h6⟩
theorem zLs.err {C D:CS} (h:zLs C D) (c:zAF) (G:zBk):zBz c C G = zBz c D G:=by unfold zBz;rw [h.σ]
theorem zLs.arr {C D:CS} (h:zLs C D) (c:zAF) (x:Int) (G:zBk):zLs (zBC c C x G) (zBC c D x G):=by
 have he:=h.err c G
 obtain ⟨h1,h2,h3,h4,h5,h6⟩:=h
 have ht:zMp c C G = zMp c D G:=by unfold zMp;rw [h1]
 unfold zBC
 rw [he,ht,h1]
 split
 · unfold zV3
   rw [h2,h3,h4,h5,h6]
   exact ⟨rfl,rfl,rfl,rfl,rfl,rfl⟩
 · exact ⟨rfl,h2,h3,h4,h5,h6⟩
theorem zLs.do_ {C D:CS} (h:zLs C D) (c:zAF) {e:EvR} (he:e.k ≠ 1):zLs (cDo c C e) (cDo c D e):=by
 unfold cDo
 split
 · exact h.arr c _ _
 · first | exact h | (rw [if_neg he,if_neg he];exact h)
theorem zLs.doE {C D:CS} (h:zLs C D) (c:zAF) (e:EvR):zFS c C e = zFS c D e:=by unfold zFS;rw [h.err]
theorem zGe {a b:Nat} (h:a = b):(!(((a:Nat):Int) == ((b:Nat):Int))) = false:=by subst h;simp
theorem zGr {a b:Int} (h:a = b):(!(a == b)) = false:=by subst h;simp
end Go.Sx
