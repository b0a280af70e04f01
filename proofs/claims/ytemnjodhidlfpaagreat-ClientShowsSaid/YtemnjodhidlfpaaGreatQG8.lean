import Derived.Test.YtemnjodhidlfpaaGreatQG7
import Derived.Test.YtemnjodhidlfpaaGreatQSxBasB
import Derived.ArgAppend
import Derived.Test.YtemnjodhidlfpaaGreatQSxStos
import Derived.Test.YtemnjodhidlfpaaGreatQSxGrams
import Derived.Test.YtemnjodhidlfpaaGreatQSxMap
/- Where entities are shown: plain mathematics. -/
set_option linter.unusedVariables false
set_option linter.unusedSimpArgs false
namespace Go.Sx
/-! ### Pick -/
def zJi (L:List RI) (t:Int):Nat → Option (Nat × Int)
 | 0=>none
 | k + 1=>if (L.getD k default).tm ≤ t then some (k,if k + 1 = L.length then -1 else ((k + 1:Nat):Int)) else zJi L t k
def zA7 (L:List RI) (t:Int):Int × Int × Nat :=
 if zDW none (tms L) ≠ 0 then (0,0,zDW none (tms L)) else match zJi L t L.length with
 | some (i,nx)=>((i:Int),nx,0)
 | none=>(0,0,5)
theorem zVq {L:List RI} {t:Int} (h:((zDW none (tms L):Nat):Int) ≠ 0):zA7 L t = (0,0,zDW none (tms L)):=if_pos (by omega)
theorem zW1 {L:List RI} {t:Int} {i:Nat} {nx:Int} (h:((zDW none (tms L):Nat):Int) = 0) (hp:zJi L t L.length = some (i,nx)):zA7 L t = ((i:Int),nx,0):=by
 unfold zA7;rw [if_neg (by omega),hp]
theorem zYF {L:List RI} {t:Int} (h:((zDW none (tms L):Nat):Int) = 0) (hp:zJi L t L.length = none):zA7 L t = (0,0,5):=by
 unfold zA7;rw [if_neg (by omega),hp]
theorem zK7 {L:List RI} {t:Int}:∀ {k i:Nat} {nx:Int},zJi L t k = some (i,nx) → i < k ∧ (L.getD i default).tm ≤ t ∧ nx = (if i + 1 = L.length then -1 else ((i + 1:Nat):Int)) ∧ ∀ j,i < j → j < k → ¬ (L.getD j default).tm ≤ t
 | 0,_,_,h=>by cases h
 | k + 1,i,nx,h=>by
   unfold zJi at h
   split at h
   · next hle=>cases h;exact ⟨Nat.lt_succ_self _,hle,rfl,fun j h1 h2=>absurd h2 (by omega)⟩
   · next hle =>
     obtain ⟨h1,h2,h3,h4⟩:=zK7 h
     refine ⟨by omega,h2,h3,fun j hj1 hj2=>?_⟩
     by_cases e:j = k
     · rw [e];exact hle
     · exact h4 j hj1 (by omega)
theorem zSg {L:List RI} {t:Int} (h:(zA7 L t).2.2 = 0):zDW none (tms L) = 0 ∧ ∃ i:Nat,i < L.length ∧ (zA7 L t).1 = (i:Int) ∧ (L.getD i default).tm ≤ t ∧ (zA7 L t).2.1 = (if i + 1 = L.length then -1 else ((i + 1:Nat):Int)) ∧ ∀ j,i < j → j < L.length → t < (L.getD j default).tm:=by
 unfold zA7 at h ⊢
 by_cases he:zDW none (tms L) ≠ 0
 · rw [if_pos he] at h;exact absurd h he
 · rw [if_neg he] at h ⊢
   cases hp:zJi L t L.length with
   | none=>rw [hp] at h;cases h
   | some p =>
     obtain ⟨i,nx⟩:=p
     obtain ⟨h1,h2,h3,h4⟩:=zK7 hp
     exact ⟨Decidable.not_not.1 he,i,h1,rfl,h2,h3,fun j hj1 hj2=>by have:=h4 j hj1 hj2;omega⟩
theorem zVo {L:List RI} {t:Int} {k:Nat} (h:¬ (L.getD k default).tm ≤ t):zJi L t (k + 1) = zJi L t k:=by
 show (if _ then _ else _) = _;rw [if_neg h]
theorem zUA {L:List RI} {t:Int} {k:Nat} (h:(L.getD k default).tm ≤ t):zJi L t (k + 1) = some (k,if k + 1 = L.length then -1 else ((k + 1:Nat):Int)):=by
 show (if _ then _ else _) = _;rw [if_pos h]
/-! ### What is shown -/
structure zFI where
 id:Int
 p0:Int
 p1:Int
 p2:Int
 a:BitVec 16
 m:Int
instance : Inhabited zFI:=⟨⟨0,0,0,0,0#16,0⟩⟩
def zA0 (p:zFI):List Value:=[.int .i64 p.id,.int .i64 p.p0,.int .i64 p.p1,.int .i64 p.p2,.int .u16 ((p.a.toNat:Nat):Int),.int .i64 p.m]
theorem zBE (p:zFI):(zA0 p).length = 6:=rfl
def zEM : List RI → Nat
 | []=>0
 | x :: l=>if zAE x.t x.tm x.l ≠ 0 then zAE x.t x.tm x.l else zEM l
theorem zI3 {L:List RI} {j:Nat} (h:j < L.length):zEM (L.drop j) = if zAE (L.getD j default).t (L.getD j default).tm (L.getD j default).l ≠ 0 then zAE (L.getD j default).t (L.getD j default).tm (L.getD j default).l else zEM (L.drop (j + 1)):=by
 rw [List.drop_eq_getElem_cons h,zEM,List.getD_eq_getElem?_getD,List.getElem?_eq_getElem h];rfl
theorem zOX {L:List RI} {j:Nat} {e:Nat} (h:j < L.length) (he:zEM (L.drop j) = e) (h0:((zAE (L.getD j default).t (L.getD j default).tm (L.getD j default).l:Nat):Int) = 0):zEM (L.drop (j + 1)) = e:=by
 rw [← he,zI3 h,if_neg (by omega)]
theorem zPS {L:List RI} {j:Nat} {e:Nat} (h:j < L.length) (he:zEM (L.drop j) = e) (h0:((zAE (L.getD j default).t (L.getD j default).tm (L.getD j default).l:Nat):Int) ≠ 0):zAE (L.getD j default).t (L.getD j default).tm (L.getD j default).l = e:=by
 rw [← he,zI3 h,if_pos (by omega)]
theorem zQa {L:List RI} {j:Nat} {e:Nat} (h:L.length ≤ j) (he:zEM (L.drop j) = e):0 = e:=by
 rw [← he,List.drop_eq_nil_of_le h];rfl
theorem zHj {L:List RI} (h:zEM L = 0):∀ x ∈ L,zAE x.t x.tm x.l = 0:=by
 induction L with
 | nil=>intro x hx;cases hx
 | cons y l ih =>
   unfold zEM at h
   split at h
   · next h2=>exact absurd h h2
   · next h2 =>
     intro x hx
     rcases List.mem_cons.1 hx with e | e
     · rw [e];exact Decidable.not_not.1 h2
     · exact ih h x e
def zEc (c:zAL) (L:List RI):Nat:=if zCm c ≠ 0 then zCm c else zEM L
theorem zZT {c:zAL} {L:List RI} (h:((zCm c:Nat):Int) ≠ 0):zCm c = zEc c L:=(if_pos (by omega)).symm
theorem zVC {c:zAL} {L:List RI} {e:Nat} (h:((zCm c:Nat):Int) = 0) (he:e = zEM L):e = zEc c L:=by unfold zEc;rw [if_neg (by omega),he]
theorem zJ3 {c:zAL} {L:List RI} (h:zEc c L = 0):zCm c = 0 ∧ zEM L = 0:=by
 unfold zEc at h
 split at h
 · next h2=>exact absurd h h2
 · next h2=>exact ⟨Decidable.not_not.1 h2,h⟩
def zB4 (x:zZ):zFI:=⟨x.id,x.p0,x.p1,x.p2,x.a,0⟩
def pL (n d x y:Int):Int:=bif zBa n d == 0 then zCw x y n d else 0
def pC (n d x u y v:Int):Int:=bif zBa n d == 0 then cAt x u y v n d else 0
def pA (n d:Int) (x y:BitVec 16):BitVec 16:=bif zBa n d == 0 then zVw x y n d else 0#16
def pW (c:Bool) (n d x u y v:Int):Int:=bif c then pC n d x u y v else pL n d x y
def zbE (c:Bool) (n d:Int) (x y:zZ):zFI:=⟨x.id,pW c n d x.p0 x.v0 y.p0 y.v0,pW c n d x.p1 x.v1 y.p1 y.v1,pW c n d x.p2 x.v2 y.p2 y.v2,pA n d x.a y.a,bif c then 2 else 1⟩
def zSP (c:Bool) (n d:Int) (B:List zZ) (x:zZ):zFI:=if (zA9 x.id B).isSome = true ∧ ((zA9 x.id B).getD zC6).g = x.g then zbE c n d x ((zA9 x.id B).getD zC6) else zB4 x
def zDK (c:zAL) (a b:RI) (t:Int):Nat:=if zEc c [a,b] ≠ 0 then zEc c [a,b] else (zAs a b t).2.2
def zC0 (c:zAL) (a b:RI) (t:Int):List zFI:=if zDK c a b t ≠ 0 then [] else a.l.map (zSP c.curve (zAs a b t).1 (zAs a b t).2.1 b.l)
def zYX (m k:Int) (x:zZ):zFI:=⟨x.id,zCr x.p0 (zAt x.v0 k),zCr x.p1 (zAt x.v1 k),zCr x.p2 (zAt x.v2 k),x.a,m⟩
def zDN (c:zAL) (x:RI) (t:Int):Nat:=if zEc c [x] ≠ 0 then zEc c [x] else (zHf x t).2
def zJ7 (c:zAL) (d:Int):Int:=if d = 0 then 0 else if c.extra < d then 4 else 3
def zIV (c:zAL) (d:Int):Int:=if d = 0 then d else if c.extra < d then c.extra else d
def zCv (c:zAL) (x:RI) (t:Int):List zFI:=if zDN c x t ≠ 0 then [] else x.l.map (zYX (zJ7 c (zHf x t).1) (zIV c (zHf x t).1))
def zDT (c:zAL) (L:List RI) (t:Int):List zFI × Nat :=
 if zEc c L ≠ 0 then ([],zEc c L) else if (zA7 L t).2.2 ≠ 0 then ([],(zA7 L t).2.2)
 else if (zA7 L t).2.1 < 0 then (zCv c (L.getD (zA7 L t).1.toNat default) t,zDN c (L.getD (zA7 L t).1.toNat default) t)
 else (zC0 c (L.getD (zA7 L t).1.toNat default) (L.getD (zA7 L t).2.1.toNat default) t,zDK c (L.getD (zA7 L t).1.toNat default) (L.getD (zA7 L t).2.1.toNat default) t)
structure RI.ok (w:World) (x:RI):Prop where
 t : -9223372036854775808 ≤ x.t ∧ x.t ≤ 9223372036854775807
 tm : -9223372036854775808 ≤ x.tm ∧ x.tm ≤ 9223372036854775807
 rd:Rd w [] x.v 9 x.l.length (x.l.flatMap zBN)
 wf:∀ e ∈ x.l,e.wf
theorem RI.ok.to {x:RI} {w0 w:World} {M:List HA} (h:x.ok w0) (hm:Mem w0 [] M w):x.ok w:=⟨h.t,h.tm,hm.rd0 h.rd,h.wf⟩
theorem zZt {x:RI} {w:World} (h:x.ok w):∀ z ∈ [x],z.ok w:=by
 intro z hz;rw [List.mem_singleton] at hz;rw [hz];exact h
theorem zZh {x y:RI} {w:World} (h:x.ok w) (h2:y.ok w):∀ z ∈ [x,y],z.ok w:=by
 intro z hz;rw [List.mem_cons,List.mem_singleton] at hz;rcases hz with e | e <;> rw [e] <;> assumption
theorem zZm {L:List RI} {w:World} (h:∀ x ∈ L,x.ok w):∀ x ∈ L,zDe x.v x.l.length:=fun x hx=>(h x hx).rd.isSl
theorem zCc {f:zZ → zFI} {l:List zZ} {j:Nat} (h:j < l.length):(l.take j).map f ++ [f (l.getD j default)] = (l.take (j + 1)).map f:=by
 rw [List.take_succ_eq_append_getElem h,List.map_append,List.getD_eq_getElem?_getD,List.getElem?_eq_getElem h];rfl
theorem zL0 : zC6.wf:=by constructor <;> (show _ ≤ (0:Int) ∧ (0:Int) ≤ _;omega)
theorem zYJ {l:List zZ} {k:Int} (h:∀ e ∈ l,e.wf):((zA9 k l).getD zC6).wf:=by
 cases hg:zA9 k l with
 | none=>exact zL0
 | some e=>exact h e (zFc hg).1
theorem zG8 {c:zAL} {L:List RI} {x:RI} (h:zEc c L = 0) (hx:x ∈ L):x.l.length ≤ 64:=by
 have h1:=zHj (zJ3 h).2 x hx
 unfold zAE at h1
 split at h1
 · cases h1
 · split at h1
   · cases h1
   · omega
theorem zNb (x:RI) (t:Int) : -9223372036854775808 ≤ (zHf x t).1 ∧ (zHf x t).1 ≤ 9223372036854775807:=by
 unfold zHf
 split
 · dsimp only;omega
 · split
   · dsimp only;omega
   · exact zB0 _ _
theorem zE9 {c:zAL} {d:Int} (h:d = 0):0 = zJ7 c d ∧ d = zIV c d:=by unfold zJ7 zIV;rw [if_pos h,if_pos h];exact ⟨rfl,rfl⟩
theorem zE0 {c:zAL} {d:Int} (h:d ≠ 0) (h2:c.extra < d):4 = zJ7 c d ∧ c.extra = zIV c d:=by unfold zJ7 zIV;rw [if_neg h,if_neg h,if_pos h2,if_pos h2];exact ⟨rfl,rfl⟩
theorem zE6 {c:zAL} {d:Int} (h:d ≠ 0) (h2:¬ c.extra < d):3 = zJ7 c d ∧ d = zIV c d:=by unfold zJ7 zIV;rw [if_neg h,if_neg h,if_neg h2,if_neg h2];exact ⟨rfl,rfl⟩
theorem zX6 {c:zAL} {x:RI} {t:Int} (h:((zEc c [x]:Nat):Int) ≠ 0):zDN c x t = zEc c [x]:=if_pos (by omega)
theorem zQh {c:zAL} {x:RI} {t:Int} (h:zEc c [x] = 0):zDN c x t = (zHf x t).2:=by unfold zDN;rw [if_neg (by omega)]
theorem zXG {c:zAL} {x:RI} {t:Int} (h:zDN c x t = 0):zCv c x t = x.l.map (zYX (zJ7 c (zHf x t).1) (zIV c (zHf x t).1)):=by unfold zCv;rw [if_neg (by omega)]
theorem zPq {c:zAL} {x:RI} {t:Int} (h:((zDN c x t:Nat):Int) ≠ 0):zCv c x t = []:=by unfold zCv;rw [if_pos (by omega)]
theorem zXN {c:zAL} {x y:RI} {t:Int} (h:((zEc c [x,y]:Nat):Int) ≠ 0):zDK c x y t = zEc c [x,y]:=if_pos (by omega)
theorem zR8 {c:zAL} {x y:RI} {t:Int} (h:zEc c [x,y] = 0):zDK c x y t = (zAs x y t).2.2:=by unfold zDK;rw [if_neg (by omega)]
theorem zWk {c:zAL} {x y:RI} {t:Int} (h:zDK c x y t = 0):zC0 c x y t = x.l.map (zSP c.curve (zAs x y t).1 (zAs x y t).2.1 y.l):=by unfold zC0;rw [if_neg (by omega)]
theorem zRj {c:zAL} {x y:RI} {t:Int} (h:((zDK c x y t:Nat):Int) ≠ 0):zC0 c x y t = []:=by unfold zC0;rw [if_pos (by omega)]
theorem zVz {c:zAL} {L:List RI} {t:Int} (h:((zEc c L:Nat):Int) ≠ 0):zDT c L t = ([],zEc c L):=if_pos (by omega)
theorem zWe {c:zAL} {L:List RI} {t:Int} (h:zEc c L = 0) (h2:(((zA7 L t).2.2:Nat):Int) ≠ 0):zDT c L t = ([],(zA7 L t).2.2):=by unfold zDT;rw [if_neg (by omega),if_pos (by omega)]
theorem zVn {c:zAL} {L:List RI} {t:Int} {i:Nat} (h:zEc c L = 0) (h2:(zA7 L t).2.2 = 0) (h3:(zA7 L t).1 = (i:Int)) (h4:(zA7 L t).2.1 < 0):zDT c L t = (zCv c (L.getD i default) t,zDN c (L.getD i default) t):=by
 unfold zDT;rw [if_neg (by omega),if_neg (by omega),if_pos h4,h3];rfl
theorem zXP {c:zAL} {L:List RI} {t:Int} {i k:Nat} (h:zEc c L = 0) (h2:(zA7 L t).2.2 = 0) (h3:(zA7 L t).1 = (i:Int)) (h4:(zA7 L t).2.1 = (k:Int)):zDT c L t = (zC0 c (L.getD i default) (L.getD k default) t,zDK c (L.getD i default) (L.getD k default) t):=by
 unfold zDT;rw [if_neg (by omega),if_neg (by omega),if_neg (by omega),h3,h4];rfl
theorem zRT {l:List zZ} {i:Nat} (h:i < l.length):l.getD i default ∈ l:=by
 rw [List.getD_eq_getElem?_getD,List.getElem?_eq_getElem h];exact List.getElem_mem h
theorem zbH {b:Bool} {q:Prop} (h:b = false):¬ (b = true ∧ q):=fun k=>by rw [h] at k;cases k.1
theorem zbD {p:Prop} {a b:BitVec 8} (h:((a.toNat:Nat):Int) ≠ ((b.toNat:Nat):Int)):¬ (p ∧ a = b):=fun k=>h (by rw [k.2])
theorem zWa {c:Bool} {n d:Int} {B:List zZ} {x:zZ} (h:(zA9 x.id B).isSome = true ∧ ((zA9 x.id B).getD zC6).g = x.g):zSP c n d B x = zbE c n d x ((zA9 x.id B).getD zC6):=if_pos h
theorem zQA {c:Bool} {n d:Int} {B:List zZ} {x:zZ} (h:¬ ((zA9 x.id B).isSome = true ∧ ((zA9 x.id B).getD zC6).g = x.g)):zSP c n d B x = zB4 x:=if_neg h
end Go.Sx
/- Slices with an offset that a call owns: elements of one cell. -/
set_option linter.unusedVariables false
set_option linter.unusedSimpArgs false
namespace Go.Sx
open Go.RowKit
variable {P : Program} {ops : Array Oper} {Q : Exit → Act → World → Prop} {rest : List Oper} {n : Nat} {F : List (Nat × Value)} {w0 : World} {S : List Nat} {M : List HA} {a : Act} {w : World}
variable {d : Nat} {ty : TypeId} {pos : String} {af : Array Edge}
def zLg (v:Value) (e:TypeId) (xs:List Value) (w:World):Prop:=(v = .slice none 0 0 ∧ xs = []) ∨
 ∃ g o cap cur,v = .slice (some ⟨g,o,none⟩) xs.length cap ∧ w.heap[g]? = some (.cells cur e (0,0)) ∧ xs.length ≤ cap ∧ cap ≤ maxLen ∧ o + cap ≤ cur.size ∧ (cur.toList.drop o).take xs.length = xs
def rwo (v:Value) (e:TypeId) (xs:List Value):HA where
 foot:=v.ownBlock.toList
 p w:=zLg v e xs w
 loc w w' h hp:=by
   rcases hp with hn | ⟨g,o,cap,cur,rfl,hg,rest⟩
   · exact .inl hn
   · refine .inr ⟨g,o,cap,cur,rfl,?_,rest⟩
     rw [h g (by simp [Value.ownBlock])]
     exact hg
 lt w h k hk:=by
   rcases h with ⟨rfl,_⟩ | ⟨g,o,cap,cur,rfl,hg,_⟩
   · simp [Value.ownBlock] at hk
   · have:k = g:=by simpa [Value.ownBlock] using hk
     subst this
     exact (Array.getElem?_eq_some_iff.1 hg).1
theorem zF7 (g o j:Nat):(⟨g,o,none⟩ : Addr).add j = ⟨g,o + j,none⟩:=by unfold Addr.add;split <;> simp_all
theorem zM3 {w:World} {g o:Nat} {cur:Array Value} {e:TypeId} {fr:Nat × Nat} (hg:w.heap[g]? = some (.cells cur e fr)) (j:Nat):w.cell? ⟨g,j,none⟩ = cur[j]?:=by
 simp [World.cell?,hg]
theorem zVb {v:Value} {e:TypeId} {xs:List Value} (h:zLg v e xs w):Rd w [] v 1 xs.length xs:=by
 rcases h with ⟨rfl,rfl⟩ | ⟨g,o,cap,cur,rfl,hg,h1,h2,h3,h4⟩
 · exact zP7 w [] 1
 · refine ⟨⟨_,cap,rfl,h1,h2⟩,by simp,fun _=>⟨_,cap,rfl,by simp,(Array.getElem?_eq_some_iff.1 hg).1,fun j u hu=>?_⟩⟩
   rw [zF7,zM3 (o:=o) hg]
   have hj:j < xs.length:=(List.getElem?_eq_some_iff.1 hu).1
   rw [← h4,List.getElem?_take,if_pos hj,List.getElem?_drop,Array.getElem?_toList] at hu
   exact hu
theorem zNg {v x:Value} {e:TypeId} {xs:List Value} (h:zLg v e (x :: xs) w):zLg (zFa v 1 1 (xs.length + 1)) e xs w ∧ (zFa v 1 1 (xs.length + 1)).ownBlock = v.ownBlock:=by
 rcases h with ⟨_,h⟩ | ⟨g,o,cap,cur,rfl,hg,h1,h2,h3,h4⟩
 · cases h
 · simp only [List.length_cons] at h1 h4 ⊢
   by_cases hc:cap = 1
   · subst hc
     have h0:xs = []:=List.eq_nil_of_length_eq_zero (by omega)
     subst h0
     refine ⟨.inr ⟨g,o,0,cur,by simp [zFa],hg,by simp,by simp [maxLen],by omega,by simp⟩,by simp [zFa,Value.ownBlock]⟩
   · refine ⟨.inr ⟨g,o + 1,cap - 1,cur,by simp [zFa,hc,zF7],hg,by omega,by omega,by omega,?_⟩,by simp [zFa,hc,Value.ownBlock,zF7]⟩
     have h5:=congrArg (List.drop 1) h4
     rw [List.drop_take,List.drop_drop] at h5
     simpa using h5
theorem zMh {v x:Value} {e:TypeId} {xs:List Value} (h:zLg v e (xs ++ [x]) w):zLg (zFa v 1 0 xs.length) e xs w ∧ (zFa v 1 0 xs.length).ownBlock = v.ownBlock:=by
 rcases h with ⟨_,h⟩ | ⟨g,o,cap,cur,rfl,hg,h1,h2,h3,h4⟩
 · simp at h
 · simp only [List.length_append,List.length_singleton] at h1 h4
   refine ⟨.inr ⟨g,o,cap,cur,by simp [zFa,show ¬ cap = 0 by omega,zF7],hg,by omega,h2,h3,?_⟩,by simp [zFa,show ¬ cap = 0 by omega,Value.ownBlock,zF7]⟩
   have h5:=congrArg (List.take xs.length) h4
   rw [List.take_take,Nat.min_eq_left (by omega)] at h5
   simpa using h5
theorem zIN {v v':Value} {e:TypeId} {xs xs':List Value} (h:zLg v' e xs' w) (hb:v'.ownBlock = v.ownBlock):Mem w (zO [rwo v e xs]) [rwo v' e xs'] w:=by
 refine ⟨Chg.refl _ _,?_,by cases hv:v'.ownBlock <;> simp [zO,rwo,hv],fun k hk=>.inl (by simpa [zO,rwo,hb] using hk)⟩
 intro y hy
 simp only [List.mem_singleton] at hy
 subst hy
 exact h
theorem St.rwoInit {v x:Value} {e:TypeId} {xs:List Value} {M':List HA} (hs:St n F w0 S M a w) (hb:Del M (rwo v e (xs ++ [x])) M'):St n F w0 S (rwo (zFa v 1 0 xs.length) e xs :: M') a w :=
 hs.frame (.c hb .n) (zIN (zMh (hs.mem.del hb)).1 (zMh (hs.mem.del hb)).2)
theorem zPd {v:Value} {e:TypeId} {b:Nat} {xs:List Value} (h:w.ownsRow b e 1 v xs.length xs):zLg v e xs w:=by
 rcases h.2 with ⟨rfl,h0⟩ | ⟨g,cap,cur,rfl,_,hg,h1,h2,h3,h4⟩
 · exact .inl ⟨rfl,List.eq_nil_of_length_eq_zero h0⟩
 · exact .inr ⟨g,0,cap,cur,rfl,hg,h1,h2,by omega,by simpa using h4⟩
theorem zUH {L xs:List Value} {u:Value} (h:L.take xs.length = xs) (hl:xs.length < L.length):(L.set xs.length u).take (xs.length + 1) = xs ++ [u]:=by
 conv=>rhs;rw [← h]
 generalize xs.length = n at *
 rw [List.take_add_one,List.getElem?_set_self hl,List.take_set_of_le (Nat.le_refl _)]
 rfl
theorem zTd {t ty e : TypeId} {i : TypeInfo} {z u : Value} {bytes : Nat} (ht : P.underlying t = some (.slice e)) (hi : P.info? e = some i) (hz : i.zero = some z) (hsize : i.size = 1) (hby : i.bytes = bytes) (hzs : z.cells.size = 1)
   {v:Value} {xs:List Value} (h:zLg v e xs w) {ad:Addr} {c:Nat} (hnews:∀ j x,[u][j]? = some x → w.cell? (ad.add j) = some x) (h1:u.oneCell' = true)
   (h63:xs.length + 1 ≤ maxLen) (hbytes:(xs.length + 1) * bytes ≤ 140737488355328) :
   ∃ v' w',(Builtin.append_ #[t,t] ty #[v,.slice (some ad) 1 c]).run P w = .ok v' w' ∧ zLg v' e (xs ++ [u]) w' ∧ w.grownBy w' v.ownBlock ∧ (v'.ownBlock = v.ownBlock ∨ ∃ b,v'.ownBlock = some b ∧ w.heap.size ≤ b):=by
 have h1':∀ x ∈ [u],x.oneCell' = true:=by intro x hx;rw [List.mem_singleton] at hx;rw [hx];exact h1
 have hl:(xs ++ [u]).length = xs.length + 1:=by simp
 rcases h with ⟨rfl,rfl⟩ | ⟨g,o,cap,cur,rfl,hg,a1,a2,a3,a4⟩
 · obtain ⟨v',w',hr,h2,h3,_,h5⟩:=run_append_own_at (P:=P) w 0 t ty e i z 1 bytes ht hi hz hsize hby hzs (by decide) _ 0 [] (World.ownsRow_nil w 0 e 1) ad 1 c [u] rfl hnews h1' h63 hbytes (Nat.zero_le _)
   exact ⟨v',w',hr,zPd (by simpa using h2),h3,h5.imp id fun h=>⟨_,h,Nat.le_refl _⟩⟩
 · by_cases hroom:xs.length + 1 ≤ cap
   · have hr := run_append_room_cells (P := P) w t ty e i ht hi g o xs.length cap ad 1 c [u] (by simp [hsize]) hnews h1' hroom
       (fun j hj=>by
         have:j = 0:=by simpa using hj
         subst this
         rw [zM3 (o:=o) hg,hsize,Nat.mul_one,Nat.add_zero,Array.getElem?_eq_getElem (by omega)];rfl)
       (fun j hj=>by simp [World.frozen?,hg])
     rw [hsize,Nat.mul_one] at hr
     refine ⟨_,_,hr,.inr ⟨g,o,cap,cur.setIfInBounds (o + xs.length) u,by rw [hl],?_,by omega,a2,by simpa using a3,?_⟩,⟨rfl,rfl,rfl,by simp [World.setCells,World.setCell],fun k hk hS=>?_⟩,.inl rfl⟩
     · simp [World.setCells,World.setCell,Array.getElem?_modify,hg]
     · rw [hl,Array.toList_setIfInBounds,List.drop_set,if_neg (by omega),show o + xs.length - o = xs.length by omega]
       exact zUH a4 (by simp;omega)
     · have:¬ g = k:=fun e=>hS (by simp [Value.ownBlock,e])
       simp [World.setCells,World.setCell,Array.getElem?_modify,this]
   · obtain ⟨v', w', hr, h2, h3⟩ := run_append_arg_grows (P := P) w t ty e i z 1 bytes ht hi hz hsize hby hzs (by decide) ⟨g, o, none⟩ xs.length cap xs (by simp)
       (fun j x hx=>(zVb (.inr ⟨g,o,cap,cur,rfl,hg,a1,a2,a3,a4⟩)).at_ (by have:=(List.getElem?_eq_some_iff.1 hx).1;omega) |> fun ⟨ad',c',e',_,_,hcell⟩=>by injection e' with e1 _ _;injection e1 with e1;subst e1;exact hcell j x hx)
       ad 1 c [u] rfl hnews (by omega) h63 hbytes
     have hv:∃ b,v'.ownBlock = some b ∧ w.heap.size ≤ b:=by
       rcases h2.2 with ⟨_,h0⟩ | ⟨g',cap',cur',rfl,hb,hg',_⟩
       · omega
       · exact ⟨g',rfl,hb⟩
     exact ⟨v',w',hr,zPd (by simpa using h2),⟨h3.os,h3.tape,h3.output,h3.size,fun k hk _=>h3.block k hk (by simp)⟩,.inr hv⟩
theorem zS4 {w':World} {v v':Value} {e:TypeId} {xs xs':List Value} (hg:w.grownBy w' v.ownBlock) (ho:zLg v' e xs' w') (hat:v'.ownBlock = v.ownBlock ∨ ∃ b,v'.ownBlock = some b ∧ w.heap.size ≤ b):Mem w (zO [rwo v e xs]) [rwo v' e xs'] w':=by
 refine ⟨⟨hg.os,hg.tape,hg.output,hg.size,fun k hk hS=>hg.block k hk (fun e=>hS (by simp [zO,rwo,← e]))⟩,?_,by cases hv:v'.ownBlock <;> simp [zO,rwo,hv],fun k hk=>?_⟩
 · intro y hy
   simp only [List.mem_singleton] at hy
   subst hy
   exact ho
 · simp only [zO,rwo,List.flatMap_cons,List.flatMap_nil,List.append_nil,Option.mem_toList] at hk ⊢
   rcases hat with h | ⟨b,h,hb⟩
   · left;rw [← h];exact hk
   · right
     have h2:some k = some b:=hk.symm.trans h
     injection h2 with h2
     omega
theorem zJW {x y : Operand} {v u uv z : Value} {t e : TypeId} {bytes : Nat} {xs : List Value} {T : List Nat} {M' : List HA} {i : TypeInfo}
   (hs:St n F w0 S M a w) (hx:evo F x = some v) (hy:evo F y = some uv) (hb:Del M (rwo v e xs) M') (hr:Rd w T uv 1 1 [u]) (h1:u.oneCell' = true)
   (ht:P.underlying t = some (.slice e)) (hi:P.info? e = some i) (hz:i.zero = some z) (hsize:i.size = 1) (hby:i.bytes = bytes) (hzs:z.cells.size = 1)
   (hbytes:(xs.length + 1) * bytes ≤ 140737488355328) (h63:xs.length + 1 ≤ maxLen) (hd:Nat.blt d n = true)
   (k:∀ v' a w,St n ((d,v') :: F) w0 S (rwo v' e (xs ++ [u]) :: M') a w → wpList P ops Q rest a w) :
   wpList P ops Q (⟨some d,.call { callee:=.builtin .append,args:=#[x,y],argTypes:=#[t,t] },ty,pos,af,none⟩ :: rest) a w:=by
 obtain ⟨ad,c,rfl,_,_,hcell⟩:=hr.at_ (by decide)
 obtain ⟨v',w',hrun,h2,h3,h5⟩:=zTd (P:=P) (w:=w) (ty:=ty) (c:=c) ht hi hz hsize hby hzs (hs.mem.del hb) hcell h1 h63 hbytes
 refine zDa rfl rfl (v:=v') (w':=w') ?_ (k v' _ _ ((hs.frame (.c hb .n) (zS4 h3 h2 h5)).put hd v'))
 simp [execOp,resolve,invoke,builtin,hs.ev hx,hs.ev hy,hrun]
theorem St.rerwo {v:Value} {e:TypeId} {xs xs':List Value} {M':List HA} (hs:St n F w0 S M a w) (hb:Del M (rwo v e xs) M') (hx:xs = xs'):St n F w0 S (rwo v e xs' :: M') a w :=
 hs.frame (.c hb .n) (zIN (by rw [← hx];exact hs.mem.del hb) rfl)
/-! ### Numbers -/
def iV (l:List Int):List Value:=l.map (Value.int .i64)
theorem zEF (l:List Int):(iV l).length = l.length:=by simp [iV]
theorem zIJ (l:List Int) (j:Nat) (h:j < l.length):(iV l)[j]? = some (.int .i64 (l.getD j 0)):=by
 simp [iV,List.getD_eq_getElem?_getD,List.getElem?_eq_getElem h]
theorem zJB (l:List Int) (x:Int):iV l ++ [.int .i64 x] = iV (l ++ [x]):=by simp [iV]
theorem zPA {l:List Int} (h:((l.length:Nat):Int) = 0):Value.tuple #[.int .i64 0,.bool false] = Value.tuple #[.int .i64 (l.getD 0 0),.bool (decide (0 < l.length))]:=by
 rw [show l = [] from List.eq_nil_of_length_eq_zero (by omega)];rfl
theorem zOn {l:List Int} (h:¬ ((l.length:Nat):Int) = 0):Value.tuple #[.int .i64 (l.getD 0 0),.bool true] = Value.tuple #[.int .i64 (l.getD 0 0),.bool (decide (0 < l.length))]:=by
 rw [show decide (0 < l.length) = true from decide_eq_true (by omega)]
def zDC (v:Value) (l:List Int) (x:Int):Value:=if l.getD 0 0 = x then zFa v 1 1 l.length else v
def zJR (l:List Int) (x:Int):List Int:=if l.getD 0 0 = x then l.drop 1 else l
theorem zT2 {v:Value} {l:List Int} {x:Int} (h:l.getD 0 0 = x):zFa v 1 1 l.length = zDC v l x:=(if_pos h).symm
theorem zUF {v:Value} {l:List Int} {x:Int} (h:¬ l.getD 0 0 = x):v = zDC v l x:=(if_neg h).symm
theorem zNw {v:Value} {e:TypeId} {l:List Int} (x:Int) (hl:0 < l.length) (h:zLg v e (iV l) w):zLg (zDC v l x) e (iV (zJR l x)) w ∧ (zDC v l x).ownBlock = v.ownBlock:=by
 unfold zDC zJR
 by_cases hx:l.getD 0 0 = x
 · rw [if_pos hx,if_pos hx]
   cases l with
   | nil=>cases hl
   | cons y t =>
     have:=zNg (v:=v) (x:=.int .i64 y) (xs:=iV t) (e:=e) (by simpa [iV] using h)
     rw [zEF] at this
     exact this
 · rw [if_neg hx,if_neg hx]
   exact ⟨h,rfl⟩
theorem St.rwoDrop {v:Value} {e:TypeId} {l:List Int} {M':List HA} (hs:St n F w0 S M a w) (hb:Del M (rwo v e (iV l)) M') (x:Int) (hl:0 < l.length):St n F w0 S (rwo (zDC v l x) e (iV (zJR l x)) :: M') a w :=
 hs.frame (.c hb .n) (zIN (zNw x hl (hs.mem.del hb)).1 (zNw x hl (hs.mem.del hb)).2)
def zJG (f:Int → Int → Bool) (l:List Int) (x:Int):Nat → Nat
 | 0=>0
 | k + 1=>if f (l.getD k 0) x then zJG f l x k else k + 1
def zDh (f:Int → Int → Bool) (l:List Int) (x:Int):List Int:=l.take (zJG f l x l.length) ++ [x]
theorem zPF {f:Int → Int → Bool} {l:List Int} {x:Int} {k m:Nat} (h:zJG f l x k = m) (h0:0 < k) (hf:f (l.getD (k - 1) 0) x = true):zJG f l x (k - 1) = m:=by
 obtain ⟨j,rfl⟩ : ∃ j,k = j + 1:=⟨k - 1,by omega⟩
 rw [zJG,show j + 1 - 1 = j from rfl] at *
 rw [if_pos hf] at h
 exact h
theorem zIc {f:Int → Int → Bool} {l:List Int} {x:Int} {k m:Nat} (h:zJG f l x k = m) (hf:k = 0 ∨ f (l.getD (k - 1) 0) x = false):k = m:=by
 rcases Nat.eq_zero_or_pos k with h0 | h0
 · subst h0;exact h
 · obtain ⟨j,rfl⟩ : ∃ j,k = j + 1:=⟨k - 1,by omega⟩
   rcases hf with hf | hf
   · omega
   · rw [show j + 1 - 1 = j from rfl] at hf
     rw [zJG,if_neg (by rw [hf];decide)] at h
     exact h
theorem St.rwoPop {v:Value} {e:TypeId} {l:List Int} {k:Nat} {M':List HA} (hs:St n F w0 S M a w) (hb:Del M (rwo v e (iV (l.take k))) M') (h0:0 < k) (hk:k ≤ l.length):St n F w0 S (rwo (zFa v 1 0 (k - 1)) e (iV (l.take (k - 1))) :: M') a w:=by
 have e1:iV (l.take k) = iV (l.take (k - 1)) ++ [.int .i64 (l.getD (k - 1) 0)]:=by
   rw [zJB]
   congr 1
   rw [List.getD_eq_getElem?_getD,List.getElem?_eq_getElem (by omega)]
   conv=>lhs;rw [show k = (k - 1) + 1 by omega]
   rw [List.take_add_one,List.getElem?_eq_getElem (by omega)]
   rfl
 rw [e1] at hb
 have h2:=hs.rwoInit hb
 rw [zEF,List.length_take,Nat.min_eq_left (by omega)] at h2
 exact h2
theorem zAw {v:Value} {e:TypeId} {l:List Int} {m:Nat} (h:zLg v e (iV l) w) (hn:l.length = m):Rd w [] v 1 m (iV l):=by
 have:=zVb h
 rw [zEF,hn] at this
 exact this
theorem zVm (l:List Int) (k j:Nat) (hj:j < k) (hk:k ≤ l.length):(iV (l.take k))[j]? = some (.int .i64 (l.getD j 0)):=by
 rw [zIJ _ j (by rw [List.length_take];omega)]
 simp only [List.getD_eq_getElem?_getD,List.getElem?_take,if_pos hj]
theorem zWJ {v:Value} {e:TypeId} {xs:List Value} (h:(rwo v e xs).p w):Mem w (zO [rwo v e xs]) [rwo v e xs] w:=zIN h rfl
def zUk (c:Int) (l:List Int) (x:Int):List Int:=(if ((l.length:Nat):Int) = c then l.drop 1 else l) ++ [x]
def wD (c:Int) (l q:List Int):List Int:=if ((l.length:Nat):Int) = c then zJR q (l.getD 0 0) else q
theorem zKm (q:List Int) (x:Int):(zJR q x).length ≤ q.length:=by unfold zJR;split <;> simp
theorem zKn {v:Value} {m:Nat} (l:List Int) (x:Int) (h:zDe v m):∃ k,zDe (zDC v l x) k:=by
 obtain ⟨A,c,rfl⟩:=h
 unfold zDC
 split
 · exact ⟨_,_,_,rfl⟩
 · exact ⟨_,_,_,rfl⟩
theorem zU1 {v:Value} {e:TypeId} {l:List Int} (hl:0 < l.length) (h:zLg v e (iV l) w):zLg (zFa v 1 1 l.length) e (iV (l.drop 1)) w ∧ (zFa v 1 1 l.length).ownBlock = v.ownBlock:=by
 cases l with
 | nil=>cases hl
 | cons y t =>
   have:=zNg (v:=v) (x:=.int .i64 y) (xs:=iV t) (e:=e) (by simpa [iV] using h)
   rw [zEF] at this
   exact this
theorem St.rwoTl {v:Value} {e:TypeId} {l:List Int} {M':List HA} (hs:St n F w0 S M a w) (hb:Del M (rwo v e (iV l)) M') (hl:0 < l.length):St n F w0 S (rwo (zFa v 1 1 l.length) e (iV (l.drop 1)) :: M') a w :=
 hs.frame (.c hb .n) (zIN (zU1 hl (hs.mem.del hb)).1 (zU1 hl (hs.mem.del hb)).2)
end Go.Sx
/- A clock's states: plain mathematics. -/
set_option linter.unusedVariables false
namespace Go.Sx
structure KS where
 l1:List Int
 l2:List Int
 l3:List Int
 s:Int
 t:Int
 b:Int
 j:Int
 now:Int
abbrev gtI : Int → Int → Bool:=fun p q=>decide (q < p)
abbrev ltI : Int → Int → Bool:=fun p q=>decide (p < q)
def KS.off (K:KS):Int:=K.l2.getD 0 0
def zVE (c:zAL) (K:KS) (x y:Int):KS :=
 let d:=zBP x y
 let m2:=zDh gtI (wD c.window K.l1 K.l2) d
 let j:=zEL K.j (zBP d (m2.getD 0 0))
 ⟨zUk c.window K.l1 d,m2,zDh ltI (wD c.window K.l1 K.l3) d,K.s,K.t,K.b,j,zSR c K.now j⟩
def zQi (K:KS) (x:Int):Int:=zBP (zBP x (K.l2.getD 0 0)) K.now
def zKT (c:zAL) (K:KS) (x:Int):KS:=if 0 < K.l2.length then { K with s:=sS c.num c.den K.s K.t K.b x (zQi K x),t:=sT K.t K.b x,b:=1 } else K
def kTm (c:zAL) (K:KS) (x:Int):Int:=if 0 < K.l2.length then sS c.num c.den K.s K.t K.b x (zQi K x) else 0
def K0 (c:zAL):KS:=⟨[],[],[],0,0,0,0,zIY c 0⟩
structure KS.ok (c:zAL) (K:KS):Prop where
 h1:((K.l1.length:Nat):Int) ≤ c.window
 s2:K.l2.Sublist K.l1
 s3:K.l3.Sublist K.l1
 h0:0 < K.l1.length → 0 < K.l2.length ∧ 0 < K.l3.length
 r:∀ x ∈ K.l1,R64 x
 s:R64 K.s
 t:R64 K.t
 j:R64 K.j
 now:c.least ≤ K.now ∧ K.now ≤ c.most
theorem zZF {c:Int} {l q:List Int} (h:q.Sublist l):(wD c l q).Sublist (if ((l.length:Nat):Int) = c then l.drop 1 else l):=by
 unfold wD
 split
 · unfold zJR
   cases l with
   | nil=>have:=List.sublist_nil.1 h;subst this;simp
   | cons y l =>
     cases q with
     | nil=>simp
     | cons z q =>
       show List.Sublist (if (z :: q).getD 0 0 = (y :: l).getD 0 0 then (z :: q).drop 1 else z :: q) l
       by_cases hz:z = y
       · rw [if_pos (by simpa using hz)]
         subst hz
         simpa using h
       · rw [if_neg (by simpa using hz)]
         cases h with
         | cons _ h=>exact h
         | cons_cons _ h=>exact absurd rfl hz
 · exact h
theorem zPB {f:Int → Int → Bool} {q l:List Int} {x:Int} (h:q.Sublist l):(zDh f q x).Sublist (l ++ [x]):=by
 unfold zDh
 exact List.Sublist.append ((List.take_sublist _ _).trans h) (List.Sublist.refl _)
theorem zLM (f:Int → Int → Bool) (q:List Int) (x:Int):0 < (zDh f q x).length:=by unfold zDh;simp
theorem zMm {c:Int} {l:List Int} {x y:Int} (h:y ∈ zUk c l x):y ∈ l ∨ y = x:=by
 unfold zUk at h
 rcases List.mem_append.1 h with h | h
 · left
   split at h
   · exact List.mem_of_mem_drop h
   · exact h
 · right;simpa using h
theorem zJy {l:List Int} (h:∀ x ∈ l,R64 x):R64 (l.getD 0 0):=by
 cases l with
 | nil=>show R64 0;omega
 | cons x l=>exact h x (by simp)
theorem KS.ok.r2 {c:zAL} {K:KS} (h:K.ok c):∀ x ∈ K.l2,R64 x:=fun x hx=>h.r x (h.s2.subset hx)
theorem zLo {c:zAL} {K:KS} (h:K.ok c) (x:Int) (f:Int → Int → Bool) {q:List Int} (hq:q.Sublist K.l1):(zDh f (wD c.window K.l1 q) x).Sublist (zUk c.window K.l1 x):=zPB (zZF hq)
theorem zXW {c:zAL} {K:KS} (h:K.ok c) {d:Int} (hd:R64 d):R64 ((zDh gtI (wD c.window K.l1 K.l2) d).getD 0 0):=by
 refine zJy fun y hy=>?_
 rcases zMm ((zLo h d gtI h.s2).subset hy) with h1 | h1
 · exact h.r y h1
 · rw [h1];exact hd
theorem zPI {x y:Int} (hx:R64 x) (hy:R64 y):R64 (zEL x y):=by
 have:=zQs hx.2 hy.2
 omega
theorem zWA {c:zAL} {K:KS} {x y:Int} (hk:zCm c = 0) (h:K.ok c):(zVE c K x y).ok c:=by
 obtain ⟨⟨_,_,hw,_⟩,hd,_⟩:=zFY hk
 have hdr:R64 (zBP x y):=zB0 _ _
 refine ⟨?_,zLo h _ _ h.s2,zLo h _ _ h.s3,fun _=>⟨zLM _ _ _,zLM _ _ _⟩,fun z hz=>?_,h.s,h.t,?_,?_⟩
 · show (((zUk c.window K.l1 (zBP x y)).length:Nat):Int) ≤ c.window
   unfold zUk
   have:=h.h1
   split
   · simp only [List.length_append,List.length_drop,List.length_singleton];omega
   · simp only [List.length_append,List.length_singleton];omega
 · rcases zMm hz with h1 | h1
   · exact h.r z h1
   · rw [h1];exact hdr
 · exact zPI h.j (zB0 _ _)
 · exact zTm hd h.now
theorem zbC {b x y:Int} (hx:R64 x) (hy:R64 y):R64 (sP b x y):=by unfold sP;split <;> assumption
theorem zRq {c:zAL} {K:KS} {x:Int} (hx:R64 x) (h:K.ok c):(zKT c K x).ok c:=by
 unfold zKT
 split
 · have hw:R64 (zQi K x):=zB0 _ _
   have h1:=zbC (b:=K.b) hw h.s
   have h2:=zbC (b:=K.b) hx h.t
   refine ⟨h.h1,h.s2,h.s3,h.h0,h.r,?_,?_,h.j,h.now⟩
   · show R64 (sS _ _ _ _ _ _ _)
     unfold sS sS1
     have:=zJX (sP K.b (zQi K x) K.s) (zDx (zBP (max x (sP K.b x K.t)) (sP K.b x K.t)) c.num c.den)
     omega
   · show R64 (sT _ _ _)
     unfold sT
     omega
 · exact h
theorem za5 {c:zAL} (hk:zCm c = 0):(K0 c).ok c:=by
 obtain ⟨⟨_,_,hw,_⟩,hd,_⟩:=zFY hk
 exact ⟨by show (0:Int) ≤ _;omega,List.Sublist.refl _,List.Sublist.refl _,fun h=>absurd h (Nat.lt_irrefl 0),fun x hx=>(by cases hx),by show R64 0;omega,by show R64 0;omega,by show R64 0;omega,zJc hd⟩
theorem St.addO {n:Nat} {F:List (Nat × Value)} {w0 w:World} {S:List Nat} {M:List HA} {a:Act} (hs:St n F w0 S M a w) (e:TypeId):St n F w0 S (rwo (.slice none 0 0) e (iV []) :: M) a w:=by
 refine hs.frame (N:=[rwo (.slice none 0 0) e (iV [])]) .n ⟨Chg.refl _ _,?_,by simp [zO,rwo,Value.ownBlock],by simp [zO,rwo,Value.ownBlock]⟩
 intro h hh
 simp only [List.mem_singleton] at hh
 subst hh
 exact .inl ⟨rfl,rfl⟩
structure KP where
 k:Nat
 wg:Nat
 sg:Nat
 jg:Nat
 dg:Nat
 v1:Value
 v2:Value
 v3:Value
 cn:Int
 ch:Int
def KP.on (p:KP) (k:Nat):KP:={ p with k:=k }
end Go.Sx
/- The client: plain mathematics. -/
set_option linter.unusedVariables false
set_option linter.unusedSimpArgs false
namespace Go.Sx
/-! ### What is kept is of numbers of 64 bits -/
def Wfs (l:List zU):Prop:=∀ s ∈ l,∀ e ∈ s.l,e.wf
theorem zMy {r:zAC} (h:r.wf):(zFS r).wf:=⟨h.id,h.p0,h.p1,h.p2,h.v0,h.v1,h.v2⟩
theorem zMM {a:zZ} {r:zAC} (ha:a.wf) (h:r.wf):(zT a r).1.wf:=by
 unfold zT
 split
 · exact zL0
 · split
   · exact zL0
   · split
     · exact ⟨ha.id,h.p0,h.p1,h.p2,h.v0,h.v1,h.v2⟩
     · exact ⟨ha.id,zEy _,zEy _,zEy _,zEy _,zEy _,zEy _⟩
theorem zJY {x:zZ} {l:List zZ} (hx:x.wf) (h:∀ e ∈ l,e.wf):∀ e ∈ x :: l,e.wf:=by
 intro e he;rcases List.mem_cons.1 he with h1 | h1
 · rw [h1];exact hx
 · exact h e h1
theorem zZ9 : ∀ (n:Nat) (was:List zZ) (l:List zAC),was.length + l.length ≤ n → (∀ e ∈ was,e.wf) → (∀ r ∈ l,r.wf) → ∀ out,apl was l = some out → ∀ e ∈ out,e.wf:=by
 intro n
 induction n with
 | zero =>
   intro was l hn hw hl out h
   cases l with
   | nil=>rw [zJn] at h;cases h;exact hw
   | cons r l=>simp at hn
 | succ n ih =>
   intro was l hn hw hl out h
   cases l with
   | nil=>rw [zJn] at h;cases h;exact hw
   | cons r l =>
     have hr:=hl r (by simp)
     have hl2:∀ r ∈ l,r.wf:=fun x hx=>hl x (by simp [hx])
     cases was with
     | nil =>
       unfold apl at h
       split at h
       · rw [Option.map_eq_some_iff] at h
         obtain ⟨o,h1,rfl⟩:=h
         exact zJY (zMy hr) (ih [] l (by simp at hn ⊢;omega) hw hl2 o h1)
       · cases h
     | cons x was =>
       have hx:=hw x (by simp)
       have hw2:∀ e ∈ was,e.wf:=fun e he=>hw e (by simp [he])
       simp only [List.length_cons] at hn
       unfold apl at h
       split at h
       · rw [Option.map_eq_some_iff] at h
         obtain ⟨o,h1,rfl⟩:=h
         exact zJY hx (ih was (r :: l) (by simp only [List.length_cons];omega) hw2 hl o h1)
       · split at h
         · split at h
           · cases h
           · split at h
             · exact ih was l (by omega) hw2 hl2 out h
             · rw [Option.map_eq_some_iff] at h
               obtain ⟨o,h1,rfl⟩:=h
               exact zJY (zMM hx hr) (ih was l (by omega) hw2 hl2 o h1)
         · split at h
           · rw [Option.map_eq_some_iff] at h
             obtain ⟨o,h1,rfl⟩:=h
             exact zJY (zMy hr) (ih (x :: was) l (by simp only [List.length_cons];omega) hw hl2 o h1)
           · cases h
theorem zae {at_ atm:Int} {a:List zZ} {gt gtm gb:Int} {rl:List zAC} (ha:∀ e ∈ a,e.wf) (hr:∀ r ∈ rl,r.wf):∀ e ∈ (aS at_ atm a gt gtm gb rl).l,e.wf:=by
 unfold aS
 split
 · intro e he
   cases ho:apl (zGI gb a) rl with
   | none=>rw [ho] at he;simp at he
   | some o =>
     rw [ho] at he
     refine zZ9 _ _ _ (Nat.le_refl _) (fun e he=>?_) hr o ho e he
     unfold zGI at he
     split at he
     · exact ha e he
     · cases he
 · intro e he;cases he
theorem zWU {l:List zU} (h:Wfs l) (k:Int):∀ e ∈ (zBo l k).l,e.wf:=by
 unfold zBo
 split
 · rename_i hk
   rw [List.getD_eq_getElem?_getD]
   cases ho:l[zAq l k]? with
   | none=>intro e he;cases he
   | some s=>exact h s (List.mem_of_getElem? ho)
 · intro e he;cases he
theorem zTP {l:List zU} {most:Nat} {x:zU} (h:Wfs l) (hx:∀ e ∈ x.l,e.wf):Wfs (zL2 l most x):=by
 have hk:Wfs (zCI l (zAq l x.t) x):=by
   intro s hs
   unfold zCI at hs
   rcases List.mem_append.1 hs with h1 | h1
   · exact h s (List.mem_of_mem_take h1)
   · rcases List.mem_cons.1 h1 with h2 | h2
     · rw [h2];exact hx
     · exact h s (List.mem_of_mem_drop h2)
 unfold zL2
 split
 · exact hk
 · exact fun s hs=>hk s (List.mem_of_mem_drop hs)
theorem zWW {most:Nat} {σ:Stt} {bs:List zQ} (h:Wfs σ.l):Wfs (zC4 most σ (zA bs)).l:=by
 unfold zC4
 split
 · exact zTP h (zae (zWU h _) (zJm bs))
 · exact h
/-! ### What is shown, of snapshots as such -/
def zTb (s:zU):RI:=⟨s.t,s.tm,s.l,.slice none 0 0⟩
def riF (x:RI):RI:=zTb x.sn
def zD (c:zAL) (l:List zU) (t:Int):List zFI × Nat:=zDT c (l.map zTb) t
theorem zap (L:List RI):tms (L.map riF) = tms L:=by unfold tms;rw [List.map_map];rfl
theorem zQx : ∀ L:List RI,zEM (L.map riF) = zEM L
 | []=>rfl
 | x :: L=>by
   show (if _ then _ else zEM (L.map riF)) = _
   rw [zQx L];rfl
theorem zPG (L:List RI) (i:Nat):(L.map riF).getD i default = riF (L.getD i default):=by
 rw [List.getD_eq_getElem?_getD,List.getD_eq_getElem?_getD,List.getElem?_map]
 cases L[i]? <;> rfl
theorem zU5 (L:List RI) (t:Int):∀ k,zJi (L.map riF) t k = zJi L t k
 | 0=>rfl
 | k + 1=>by unfold zJi;rw [zU5 L t k,zPG,List.length_map];rfl
theorem zWh (L:List RI) (t:Int):zA7 (L.map riF) t = zA7 L t:=by unfold zA7;rw [zap,zU5,List.length_map]
theorem zPR (c:zAL) (L:List RI):zEc c (L.map riF) = zEc c L:=by unfold zEc;rw [zQx]
theorem zO7 (c:zAL) (x:RI) (t:Int):zDN c (riF x) t = zDN c x t:=by
 have h:=zPR c [x]
 unfold zDN;rw [show [riF x] = [x].map riF from rfl,h];rfl
theorem zXJ (c:zAL) (x:RI) (t:Int):zCv c (riF x) t = zCv c x t:=by unfold zCv;rw [zO7];rfl
theorem zPH (c:zAL) (x y:RI) (t:Int):zDK c (riF x) (riF y) t = zDK c x y t:=by
 have h:=zPR c [x,y]
 unfold zDK;rw [show [riF x,riF y] = [x,y].map riF from rfl,h];rfl
theorem zXs (c:zAL) (x y:RI) (t:Int):zC0 c (riF x) (riF y) t = zC0 c x y t:=by unfold zC0;rw [zPH];rfl
theorem zWV (c:zAL) (L:List RI) (t:Int):zDT c (L.map riF) t = zDT c L t:=by
 unfold zDT;rw [zPR,zWh,zPG,zPG,zXJ,zO7,zXs,zPH]
theorem zS8 (c:zAL) (L:List RI) (t:Int):zDT c L t = zD c (sns L) t:=by
 unfold zD;rw [sns,List.map_map];exact (zWV c L t).symm
/-! ### States -/
structure CS where
 σ:Stt
 K:KS
 fr:Nat
structure ShR where
 ready:Bool
 time:Int
 l:List zFI
def zAL.keep (c:zAL):Nat:=c.ring.toNat
def zFB (c:zAL) (C:CS) (G:zCu):Nat:=zBi C.σ.l c.keep C.σ.floor C.σ.gone G
def zTe (c:zAL) (C:CS) (G:zCu):Int:=(zBo (zC4 c.keep C.σ G).l (zI0 C.σ.l c.keep C.σ.floor C.σ.gone G)).tm
def zKZ (c:zAL) (C:CS) (x:Int) (G:zCu):CS:=⟨zC4 c.keep C.σ G,if zFB c C G = 0 then zVE c C.K x (zTe c C G) else C.K,C.fr⟩
def zLf (c:zAL) (C:CS) (x:Int):CS:=⟨C.σ,zKT c C.K x,C.fr + 1⟩
def zCD (c:zAL) (C:CS) (x:Int):ShR:=if 0 < C.K.l2.length then ⟨true,kTm c C.K x,(zD c C.σ.l (kTm c C.K x)).1⟩ else ⟨false,0,[]⟩
def C0 (c:zAL):CS:=⟨zZv,K0 c,0⟩
structure CS.ok (c:zAL) (C:CS):Prop where
 k:C.K.ok c
 wf:Wfs C.σ.l
theorem zZu {c:zAL} (hk:zCm c = 0):(C0 c).ok c:=⟨za5 hk,fun s hs=>by cases hs⟩
theorem zL5 {c:zAL} {C:CS} {x:Int} {bs:List zQ} (hk:zCm c = 0) (h:C.ok c):(zKZ c C x (zA bs)).ok c:=by
 refine ⟨?_,zWW h.wf⟩
 show KS.ok c (if _ then _ else _)
 split
 · exact zWA hk h.k
 · exact h.k
theorem zMY {c:zAL} {C:CS} {x:Int} (hx:R64 x) (h:C.ok c):(zLf c C x).ok c:=⟨zRq hx h.k,h.wf⟩
instance : Inhabited KP:=⟨⟨0,0,0,0,0,.slice none 0 0,.slice none 0 0,.slice none 0 0,0,0⟩⟩
theorem zZY {c:zAL} {K:KS} {x:Int} (hx:R64 x) (h:K.ok c):R64 (kTm c K x):=by
 have h1:=(zRq hx h).s
 unfold zKT at h1
 unfold kTm
 split at h1
 · rename_i hq;rw [if_pos hq];exact h1
 · rename_i hq;rw [if_neg hq];show R64 0;omega
theorem zYM {L:List RI} {l:List zU} {j:Nat} {v:Value} (h:sns L = l.take j) (hj:j < l.length):sns (L ++ [(⟨(sat l (j:Int)).t,(sat l (j:Int)).tm,(sat l (j:Int)).l,v⟩ : RI)]) = l.take (j + 1):=by
 have hs:sat l (j:Int) = l[j]:=by
   unfold sat
   rw [if_pos (by omega),Int.toNat_natCast,List.getD_eq_getElem?_getD,List.getElem?_eq_getElem hj];rfl
 have h2:sns (L ++ [(⟨(sat l (j:Int)).t,(sat l (j:Int)).tm,(sat l (j:Int)).l,v⟩ : RI)]) = sns L ++ [sat l (j:Int)]:=by unfold sns;rw [List.map_append];rfl
 rw [h2,h,hs,List.take_succ_eq_append_getElem hj]
theorem zTL {L:List RI} {j:Nat} (h:j < L.length):iV ((L.take j).map RI.t) ++ [.int .i64 (L.getD j default).t] = iV ((L.take (j + 1)).map RI.t):=by
 rw [zJB,List.take_succ_eq_append_getElem h,List.map_append,List.getD_eq_getElem?_getD,List.getElem?_eq_getElem h];rfl
theorem zSu {L:List RI} {l:List zU} (h:sns L = l):L.map RI.t = l.map zU.t:=by subst h;unfold sns;rw [List.map_map];rfl
theorem zLQ {c:zAL} (hk:zCm c = 0):((c.keep:Nat):Int) = c.ring ∧ 1 ≤ c.keep ∧ c.keep ≤ 64:=by
 obtain ⟨⟨h1,h2,_,_⟩,_⟩:=zFY hk
 unfold zAL.keep
 omega
theorem Mem.resep {w w':World} {S:List Nat} {A B:List HA} (h:Mem w S (A ++ B) w'):Mem w S (A ++ [zFu B]) w':=by
 obtain ⟨h1,h2,h3⟩:=Mem.parts h
 refine ⟨h.chg,fun y hy=>?_,h3,by rw [zDr];exact h.ge⟩
 rcases List.mem_append.1 hy with e | e
 · exact h1 y e
 · rw [List.mem_singleton] at e;rw [e];exact h2
theorem Mem.wide {w w':World} {S:List Nat} {N:List HA} (h:Mem w [] N w'):Mem w S N w':=⟨⟨h.chg.os,h.chg.tape,h.chg.output,h.chg.size,fun k hk _=>h.chg.block k hk (by simp)⟩,h.all,h.nd,fun k hk=>(h.ge k hk).elim (fun h=>by cases h) .inr⟩
theorem zaN {e:Nat} {L:List RI} {w:World} {most:Nat} (h:(rws e L).p w) (ho:Oks (sns L) most) (hw:Wfs (sns L)):∀ x ∈ L,x.ok w:=by
 intro x hx
 have hm:x.sn ∈ sns L:=List.mem_map.2 ⟨x,hx,rfl⟩
 obtain ⟨h1,h2,h3,h4,h5⟩:=ho.rng x.sn hm
 exact ⟨⟨by have:(0:Int) ≤ x.t:=h1;omega,by have:x.t ≤ 4294967295:=h2;omega⟩,⟨h3,h4⟩,zEE h (.inl hx),hw x.sn hm⟩
end Go.Sx
/- The client's example: plain mathematics. -/
set_option linter.unusedVariables false
namespace Go.Sx
section
open Go.RowKit
variable {P : Program} {ops : Array Oper} {Q : Exit → Act → World → Prop} {rest : List Oper} {n : Nat} {F : List (Nat × Value)} {w0 : World} {S : List Nat} {M : List HA} {a : Act} {w : World} {d : Nat} {ty : TypeId} {pos : String} {af : Array Edge}
theorem zYk {x i : Operand} {v : Value} {t e : TypeId} {j o len size m sz : Nat} {T : List Nat} {xs : List Value} {kd : IntKind} {q : Int} (hs : St n F w0 S M a w) (hx : evo F x = some (.pointer (some (adr v j)))) (hi : evo F i = some (.int kd q)) (hr : Rd w T v size m xs) (hm : 0 < m) (ht : P.underlying t = some (.array len e))
   (h0:0 ≤ q) (h1:q < len) (hsz:∀ w,(sizeOf e).run P w = .ok sz w) (ho:j + q.toNat * sz = o) (hd:Nat.blt d n = true)
   (k:∀ a w,St n ((d,.pointer (some (adr v o))) :: F) w0 S M a w → wpList P ops Q rest a w):wpList P ops Q (⟨some d,.indexAddr t x i,ty,pos,af,none⟩ :: rest) a w:=by
 subst ho
 have ha:(adr v j).add (q.toNat * sz) = adr v (j + q.toNat * sz):=by rw [zMK hr hm]
 have hb:0 ≤ q ∧ q < (len:Int):=⟨h0,h1⟩
 exact zN hs (by simp [execOp,Instr.indexAt,Instr.sureAddr,asIntOf,hs.ev hx,hs.ev hi,run_underlying ht,hb,hsz,ha]) hd k
end
def exC : zAL:=⟨4,4,0,0,0,0,0,1,1,0,false⟩
def exR (pl:Int):zAC:=⟨0,1,pl,0,0,0,0,0,0#16⟩
def exB (t tm pl:Int):List zQ:=gwB t tm (-1) [exR pl]
theorem zRr {pl:Int} (h:R64 pl):∀ x ∈ [exR pl],x.wf:=by
 intro x hx;rw [List.mem_singleton] at hx;rw [hx]
 exact ⟨(by show R64 0;omega),(by show R64 1;omega),h,(by show R64 0;omega),(by show R64 0;omega),(by show R64 0;omega),(by show R64 0;omega),(by show R64 0;omega)⟩
theorem zXQ : zCm exC = 0:=by decide +kernel
theorem zXw : zA (exB 1 0 0) = ⟨1,0,-1,[exR 0],0⟩:=zHz (zRr (by omega)) (by decide +kernel)
theorem zaH : zA (exB 2 10 10) = ⟨2,10,-1,[exR 10],0⟩:=zHz (zRr (by omega)) (by decide +kernel)
def zXh : CS:=zKZ exC (C0 exC) 0 (zA (exB 1 0 0))
def zaU : CS:=zKZ exC zXh 10 (zA (exB 2 10 10))
theorem zbK : zFB exC (C0 exC) (zA (exB 1 0 0)) = 0:=by rw [zXw];decide +kernel
theorem zbN : zFB exC zXh (zA (exB 2 10 10)) = 0:=by unfold zXh;rw [zXw,zaH];decide +kernel
theorem zbJ : zCD exC zaU 5 = ⟨true,5,[⟨1,5,0,0,0#16,1⟩]⟩:=by unfold zaU zXh;rw [zXw,zaH];kernel_rfl
theorem zU6 : (C0 exC).ok exC:=zZu zXQ
theorem zVh : zXh.ok exC:=zL5 zXQ zU6
theorem zZ6 : zaU.ok exC:=zL5 zXQ zVh
theorem zM5 (c:zAL) (C:CS) (x:Int) (G:zCu) (i:Nat):(zKZ c C x G).σ.n i ≤ C.σ.n i + 1:=by
 show (zC4 _ _ _).n i ≤ _
 unfold zC4
 split <;> (show zBV _ _ i ≤ _;unfold zBV;split <;> omega)
end Go.Sx
/- Rows' arguments: configs, events. -/
set_option linter.unusedVariables false
set_option linter.unusedSimpArgs false
namespace Go.Sx
open Go.RowKit Go.ChangeShapes Go.WideShapes
variable {W : World}
theorem zaj {c:List Value} (h:AllK W c [.i .u8]):∃ b:zQ,c = [zKc b]:=by
 obtain ⟨u,us,rfl,h1,h2⟩:=h.split
 rw [h2.none]
 cases h1 with
 | i w =>
   obtain ⟨X,hX⟩:=zHe w
   exact ⟨X,by rw [hX];rfl⟩
theorem zRf {α:Type} (f:α → Value):∀ (l:List α),(l.flatMap fun x=>[f x]) = l.map f
 | []=>rfl
 | a :: l=>by simp [zRf f l]
def zbQ (c:zAL):List Value:=[.int .i64 c.ring,.int .i64 c.window,.int .i64 c.base,.int .i64 c.gain,.int .i64 c.least,.int .i64 c.most,.int .i64 c.slack,.int .i64 c.num,.int .i64 c.den,.int .i64 c.extra,.bool c.curve]
theorem OneK.boo {v:Value} (h:OneK W v .b):∃ b:Bool,v = .bool b:=by cases h;exact ⟨_,rfl⟩
theorem zaE {cs:List Value} (h:AllK W cs [.i .i64,.i .i64,.i .i64,.i .i64,.i .i64,.i .i64,.i .i64,.i .i64,.i .i64,.i .i64,.b]):∃ c:zAL,cs = zbQ c:=by
 obtain ⟨_,_,rfl,h1,h⟩:=h.split
 obtain ⟨_,_,rfl,h2,h⟩:=h.split
 obtain ⟨_,_,rfl,h3,h⟩:=h.split
 obtain ⟨_,_,rfl,h4,h⟩:=h.split
 obtain ⟨_,_,rfl,h5,h⟩:=h.split
 obtain ⟨_,_,rfl,h6,h⟩:=h.split
 obtain ⟨_,_,rfl,h7,h⟩:=h.split
 obtain ⟨_,_,rfl,h8,h⟩:=h.split
 obtain ⟨_,_,rfl,h9,h⟩:=h.split
 obtain ⟨_,_,rfl,h10,h⟩:=h.split
 obtain ⟨_,_,rfl,h11,h⟩:=h.split
 obtain rfl:=h.none
 obtain ⟨z1,rfl,_⟩:=h1.i64
 obtain ⟨z2,rfl,_⟩:=h2.i64
 obtain ⟨z3,rfl,_⟩:=h3.i64
 obtain ⟨z4,rfl,_⟩:=h4.i64
 obtain ⟨z5,rfl,_⟩:=h5.i64
 obtain ⟨z6,rfl,_⟩:=h6.i64
 obtain ⟨z7,rfl,_⟩:=h7.i64
 obtain ⟨z8,rfl,_⟩:=h8.i64
 obtain ⟨z9,rfl,_⟩:=h9.i64
 obtain ⟨z10,rfl,_⟩:=h10.i64
 obtain ⟨b,rfl⟩:=h11.boo
 exact ⟨⟨z1,z2,z3,z4,z5,z6,z7,z8,z9,z10,b⟩,rfl⟩
structure EvR where
 k:Int
 at_:Int
 v:Value
 bs:List zQ
instance : Inhabited EvR:=⟨⟨0,0,.slice none 0 0,[]⟩⟩
def evV (x:EvR):List Value:=[.int .i64 x.k,.int .i64 x.at_,x.v]
theorem zJK (x:EvR):(evV x).length = 3:=rfl
structure EvR.ok (W:World) (x:EvR):Prop where
 k:R64 x.k
 at_:R64 x.at_
 rd:Rd W [] x.v 1 x.bs.length (zC x.bs)
theorem zah {c:List Value} (h:AllK W c [.i .i64,.i .i64,.s 1 [.i .u8]]):∃ x:EvR,c = evV x ∧ x.ok W:=by
 obtain ⟨_,_,rfl,h1,h⟩:=h.split
 obtain ⟨_,_,rfl,h2,h⟩:=h.split
 obtain ⟨_,_,rfl,h3,h⟩:=h.split
 obtain rfl:=h.none
 obtain ⟨z1,rfl,w1⟩:=h1.i64
 obtain ⟨z2,rfl,w2⟩:=h2.i64
 obtain ⟨len,f,hf,hr⟩:=h3.sl
 obtain ⟨bs,hl,he⟩:=zQK (g:=fun b:zQ=>[zKc b]) len fun i hi=>zaj (hf i hi)
 rw [he,zRf] at hr
 rw [← hl] at hr
 exact ⟨⟨z1,z2,_,bs⟩,rfl,⟨w1,w2,hr⟩⟩
theorem zSZ {H : Type} {enc : TypeId × Value → H} {P : Program} {t e : TypeId} {a : Option Addr} {len cap m : Nat} {dd : DataW H} {p : List MemPlace} (hu : P.underlying t = some (.slice e)) (hk : zFw P m t = some [.s 3 [.i .i64, .i .i64, .s 1 [.i .u8]]]) (h : DataW.Trod enc P W 0 (fun _ => true) true t (.slice a len cap) dd p) :
   ∃ L:List EvR,Rd W [] (.slice a len cap) 3 L.length (L.flatMap evV) ∧ ∀ x ∈ L,x.ok W:=by
 obtain ⟨f,hf,hr⟩:=zMT hu hk h
 obtain ⟨l,hl,he,hp⟩:=zMv (g:=evV) (p:=fun x:EvR=>x.ok W) len fun i hi=>zah (hf i hi)
 subst hl
 rw [he] at hr
 exact ⟨l,hr,hp⟩
end Go.Sx
/- A client's counts: plain mathematics. -/
set_option linter.unusedVariables false
namespace Go.Sx
theorem zPK {l:List EvR} {i:Nat} (h:i < l.length):l.getD i default ∈ l:=by
 rw [List.getD_eq_getElem?_getD,List.getElem?_eq_getElem h];exact List.getElem_mem h
end Go.Sx
/- Maps of functions; what an event does to a client. -/
set_option linter.unusedVariables false
set_option linter.unusedSimpArgs false
namespace Go.Sx
open Go.RowKit
section
variable {P : Program} {ops : Array Oper} {Q : Exit → Act → World → Prop} {rest : List Oper} {n : Nat} {F : List (Nat × Value)} {w0 : World} {S : List Nat} {M : List HA} {a : Act} {w : World} {d : Nat} {ty : TypeId} {pos : String} {af : Array Edge}
theorem zI2 {t kt e : TypeId} {m x y : Operand} {g : Nat} {k : Int} {u : Value} {kv kv' : List (Int × Value)} {M' : List HA} (hs : St n F w0 S M a w) (hm : evo F m = some (.map (some g))) (hx : evo F x = some (.int .i64 k)) (hy : evo F y = some u) (hb : Del M (mpr g kv) M')
   (ht:P.underlying t = some (.map kt e)) (hkt:P.underlying kt = some (.int .i64)) (he:zNn k u kv = kv')
   (c:∀ a w,St n F w0 S (mpr g kv' :: M') a w → wpList P ops Q rest a w):wpList P ops Q (⟨none,.insert t m x y,ty,pos,af,none⟩ :: rest) a w:=by
 subst he
 obtain ⟨w',hr,hw⟩:=zQj (hs.mem.del hb) ht hkt (k:=k) (u:=u)
 exact zH3 rfl rfl (by simp [execOp,hs.ev hm,hs.ev hx,hs.ev hy,hr]) (c _ _ (hs.frame (.c hb .n) hw))
theorem zJu {t kt e : TypeId} {m x : Operand} {g : Nat} {k : Int} {kv : List (Int × Value)} {z v : Value} {b : Bool} {M' : List HA} (hs : St n F w0 S M a w) (hm : evo F m = some (.map (some g))) (hx : evo F x = some (.int .i64 k)) (hb : Del M (mpr g kv) M')
   (ht:P.underlying t = some (.map kt e)) (hkt:P.underlying kt = some (.int .i64)) (hz:∀ w,(zeroValue e).run P w = .ok z w) (hv:(zHH k kv).getD z = v) (hq:(zHH k kv).isSome = b) (hd:Nat.blt d n = true)
   (c:∀ a w,St n ((d,.tuple #[v,.bool b]) :: F) w0 S M a w → wpList P ops Q rest a w):wpList P ops Q (⟨some d,.lookup t m x true,ty,pos,af,none⟩ :: rest) a w:=by
 subst hv hq
 exact zSE hs hm hx hb ht hkt hz hd c
end
theorem zNB {k:Int} {a b:Value} (h0:k ≠ 0) (h1:k ≠ 1):zHH k [(0,a),(1,b)] = none:=by
 simp only [zHH]
 rw [if_neg (fun h=>h0 h.symm),if_neg (fun h=>h1 h.symm)]
def cDo (c:zAL) (C:CS) (e:EvR):CS:=if e.k = 0 then zKZ c C e.at_ (zA e.bs) else if e.k = 1 then zLf c C e.at_ else C
def zH5 (c:zAL) (C:CS) (e:EvR):ShR:=if e.k = 1 then zCD c C e.at_ else ⟨false,0,[]⟩
def zaY (c:zAL) (C:CS) (e:EvR):Nat:=if e.k = 0 then zFB c C (zA e.bs) else if e.k = 1 then 0 else 11
theorem zVQ {c:zAL} {C:CS} {e:EvR} (hk:zCm c = 0) (he:R64 e.at_) (h:C.ok c):(cDo c C e).ok c:=by
 unfold cDo
 split
 · exact zL5 hk h
 · split
   · exact zMY he h
   · exact h
theorem zYq (c:zAL) (C:CS) (e:EvR) (i:Nat):(cDo c C e).σ.n i ≤ C.σ.n i + 1:=by
 unfold cDo
 split
 · exact zM5 _ _ _ _ i
 · split
   · exact Nat.le_succ _
   · exact Nat.le_succ _
theorem zZD (c:zAL) (C:CS) (e:EvR):(cDo c C e).fr = C.fr + (if e.k = 1 then 1 else 0):=by
 unfold cDo
 split
 · rename_i h;rw [if_neg (by omega)];rfl
 · split <;> rfl
theorem zMg (c:zAL) (C:CS) (e:EvR):(cDo c C e).fr ≤ C.fr + 1:=by rw [zZD];split <;> omega
end Go.Sx
/- What is shown, by and by: plain mathematics. -/
set_option linter.unusedVariables false
namespace Go.Sx
/-! ### Times never go back -/
theorem zZ0 {c:zAL} {K:KS} {x:Int} (hq:0 < K.l2.length) (hb:K.b ≠ 0):K.s ≤ kTm c K x:=by
 unfold kTm sS sS1
 rw [if_pos hq,show sP K.b (zQi K x) K.s = K.s from if_neg hb]
 omega
theorem zZA {c:zAL} {K:KS} {x:Int} (hq:0 < K.l2.length):(zKT c K x).b = 1 ∧ (zKT c K x).s = kTm c K x:=by
 unfold zKT kTm;rw [if_pos hq,if_pos hq];exact ⟨rfl,rfl⟩
def ShI (K:KS) (bg:Bool) (last:Int):Prop:=bg = true → K.b = 1 ∧ K.s = last
theorem ShI.arr {c:zAL} {C:CS} {bg:Bool} {last x:Int} {G:zCu} (h:ShI C.K bg last):ShI (zKZ c C x G).K bg last:=by
 intro hb
 have:=h hb
 show (if _ then _ else _:KS).b = 1 ∧ (if _ then _ else _:KS).s = last
 split <;> exact this
theorem zRz {c:zAL} {C:CS} {x:Int} (h:(zCD c C x).ready = true):0 < C.K.l2.length:=by
 unfold zCD at h
 split at h
 · assumption
 · cases h
theorem zMp {c:zAL} {C:CS} {e:EvR} (h:(zH5 c C e).ready = false):zH5 c C e = ⟨false,0,[]⟩:=by
 unfold zH5 at h ⊢
 split
 · rename_i hk;rw [if_pos hk] at h
   unfold zCD at h ⊢
   split
   · rename_i hq;rw [if_pos hq] at h;cases h
   · rfl
 · rfl
theorem zQB {c:zAL} {C:CS} {e:EvR} (h:e.k ≠ 1):zH5 c C e = ⟨false,0,[]⟩:=if_neg h
theorem zYO {c:zAL} {C:CS} {e:EvR} (hk:e.k = 1) (h:(zH5 c C e).ready = true):0 < C.K.l2.length ∧ zH5 c C e = ⟨true,kTm c C.K e.at_,(zD c C.σ.l (kTm c C.K e.at_)).1⟩:=by
 have hd:zH5 c C e = zCD c C e.at_:=if_pos hk
 rw [hd] at h ⊢
 have hq:=zRz h
 exact ⟨hq,if_pos hq⟩
theorem ShI.other {c:zAL} {C:CS} {bg:Bool} {last:Int} {e:EvR} (h:ShI C.K bg last) (hr:(zH5 c C e).ready = false):ShI (cDo c C e).K bg last:=by
 unfold cDo
 split
 · exact h.arr
 · split
   · rename_i hk
     unfold zH5 at hr;rw [if_pos hk] at hr
     intro hb
     show (zKT c C.K e.at_).b = 1 ∧ (zKT c C.K e.at_).s = last
     unfold zCD at hr
     unfold zKT
     split at hr
     · cases hr
     · rename_i hq;rw [if_neg hq];exact h hb
   · exact h
theorem ShI.shown {c:zAL} {C:CS} {x:Int} (hq:0 < C.K.l2.length):ShI (zLf c C x).K true (kTm c C.K x):=fun _=>zZA hq
theorem ShI.ge {c:zAL} {C:CS} {bg:Bool} {last x:Int} (h:ShI C.K bg last) (hq:0 < C.K.l2.length) (hb:bg = true):¬ kTm c C.K x < last:=by
 obtain ⟨h1,h2⟩:=h hb
 have:=zZ0 (c:=c) (x:=x) hq (by rw [h1];decide)
 omega
/-! ### What is kept, one by one -/
theorem zQ2 {l:List zU} (h:srt l) {i:Nat} (hi:i < l.length):zAq l (l.getD i default).t = i:=by
 have hg:∀ (a b:Nat),a < b → b < l.length → (l.getD a default).t < (l.getD b default).t:=by
   intro a b hab hb
   have:=List.pairwise_iff_getElem.1 h a b (by omega) hb hab
   rw [List.getD_eq_getElem?_getD,List.getD_eq_getElem?_getD,List.getElem?_eq_getElem (by omega:a < l.length),List.getElem?_eq_getElem hb]
   exact this
 rcases Nat.lt_trichotomy (zAq l (l.getD i default).t) i with hlt | heq | hgt
 · have h1:=zMe h (Nat.le_refl _) (by omega:zAq l (l.getD i default).t < l.length)
   have h2:=hg _ i hlt hi
   omega
 · exact heq
 · have:=zLq h hgt
   omega
theorem zII {l:List zU} {i:Nat} (hi:i < l.length):zDU l (l.getD i default).t = true:=by
 refine List.any_eq_true.2 ⟨l.getD i default,?_,by simp⟩
 rw [List.getD_eq_getElem?_getD,List.getElem?_eq_getElem hi];exact List.getElem_mem hi
theorem zPx {l:List zU} (h:srt l) {i:Nat} (hi:i < l.length):zBo l (l.getD i default).t = l.getD i default:=by
 unfold zBo;rw [if_pos (zII hi),zQ2 h hi]
theorem zMU {l:List zU} {i:Nat} (hi:i < l.length):(l.map zU.t).getD i 0 = (l.getD i default).t:=by
 rw [List.getD_eq_getElem?_getD,List.getElem?_map,List.getD_eq_getElem?_getD,List.getElem?_eq_getElem hi];rfl
theorem zMw {L:List RI} {l:List zU} {j:Nat} {v:Value} (hs:srt l) (h:sns L = l.take j) (hj:j < l.length):sns (L ++ [(⟨(zBo l ((l.map zU.t).getD j 0)).t,(zBo l ((l.map zU.t).getD j 0)).tm,(zBo l ((l.map zU.t).getD j 0)).l,v⟩ : RI)]) = l.take (j + 1):=by
 rw [zMU hj,zPx hs hj]
 have h2:sns (L ++ [(⟨(l.getD j default).t,(l.getD j default).tm,(l.getD j default).l,v⟩ : RI)]) = sns L ++ [l.getD j default]:=by unfold sns;rw [List.map_append];rfl
 rw [h2,h,List.take_succ_eq_append_getElem hj,List.getD_eq_getElem?_getD,List.getElem?_eq_getElem hj];rfl
/-! ### Ids rise -/
theorem zNH {l:List zZ} {f:zZ → zFI} (h:Srt l) (hf:∀ x,(f x).id = x.id):(l.map f).Pairwise (fun p q=>p.id < q.id):=by
 rw [List.pairwise_map]
 exact h.imp fun h=>by rw [hf,hf];exact h
theorem zR3 (c:zAL) (a b:RI) (t:Int):(zC0 c a b t).Pairwise (fun p q=>p.id < q.id):=by
 unfold zC0
 split
 · exact List.Pairwise.nil
 · rename_i h
   have h0:zDK c a b t = 0:=Decidable.not_not.1 h
   have hc:zEc c [a,b] = 0:=by
     unfold zDK at h0
     split at h0
     · rename_i h1;exact absurd h0 h1
     · rename_i h1;exact Decidable.not_not.1 h1
   refine zNH (zHO (zC1 (zHj (zJ3 hc).2 a (by simp))).2.2.2.2.2) fun x=>?_
   unfold zSP
   split <;> rfl
theorem zQP (c:zAL) (a:RI) (t:Int):(zCv c a t).Pairwise (fun p q=>p.id < q.id):=by
 unfold zCv
 split
 · exact List.Pairwise.nil
 · rename_i h
   have h0:zDN c a t = 0:=Decidable.not_not.1 h
   have hc:zEc c [a] = 0:=by
     unfold zDN at h0
     split at h0
     · rename_i h1;exact absurd h0 h1
     · rename_i h1;exact Decidable.not_not.1 h1
   exact zNH (zHO (zC1 (zHj (zJ3 hc).2 a (by simp))).2.2.2.2.2) fun x=>rfl
theorem zOO (c:zAL) (L:List RI) (t:Int):(zDT c L t).1.Pairwise (fun p q=>p.id < q.id):=by
 unfold zDT
 split
 · exact List.Pairwise.nil
 · split
   · exact List.Pairwise.nil
   · split
     · exact zQP _ _ _
     · exact zR3 _ _ _ _
theorem zHm {c:zAL} {l:List zU} {t:Int} {i:Nat} (h0:0 < i) (hi:i < (zD c l t).1.length):¬ ((zD c l t).1.getD i default).id ≤ ((zD c l t).1.getD (i - 1) default).id:=by
 have h:=List.pairwise_iff_getElem.1 (zOO c (l.map zTb) t) (i - 1) i (by show i - 1 < (zD c l t).1.length;omega) hi (by omega)
 rw [List.getD_eq_getElem?_getD,List.getD_eq_getElem?_getD,List.getElem?_eq_getElem hi,List.getElem?_eq_getElem (by omega:i - 1 < (zD c l t).1.length)]
 have h2:((zD c l t).1[i - 1]'(by omega)).id < ((zD c l t).1[i]'hi).id:=h
 show ¬ ((zD c l t).1[i]'hi).id ≤ ((zD c l t).1[i - 1]'(by omega)).id
 omega
theorem zOW {c:zAL} {l:List zU} {t:Int}:(zD c l t).1.length ≤ 64:=by
 unfold zD zDT
 split
 · exact Nat.zero_le _
 · split
   · exact Nat.zero_le _
   · split
     · unfold zCv
       split
       · exact Nat.zero_le _
       · rename_i h
         have h0:zDN c ((List.map zTb l).getD (zA7 (List.map zTb l) t).1.toNat default) t = 0:=Decidable.not_not.1 h
         unfold zDN at h0
         split at h0
         · rename_i h1;exact absurd h0 h1
         · rename_i h1;rw [List.length_map];exact zG8 (Decidable.not_not.1 h1) (by simp)
     · unfold zC0
       split
       · exact Nat.zero_le _
       · rename_i h
         have h0:zDK c ((List.map zTb l).getD (zA7 (List.map zTb l) t).1.toNat default) ((List.map zTb l).getD (zA7 (List.map zTb l) t).2.1.toNat default) t = 0:=Decidable.not_not.1 h
         unfold zDK at h0
         split at h0
         · rename_i h1;exact absurd h0 h1
         · rename_i h1;rw [List.length_map];exact zG8 (Decidable.not_not.1 h1) (by simp)
theorem zNT (p:zFI):zAI (zA0 p) (zA0 p) = true:=by
 simp [zAI,vEq,zA0]
end Go.Sx
/- A client with frames, beside one without: plain mathematics. -/
set_option linter.unusedVariables false
namespace Go.Sx
structure zS6 (C D:CS):Prop where
 σ:C.σ = D.σ
 l1:C.K.l1 = D.K.l1
 l2:C.K.l2 = D.K.l2
 l3:C.K.l3 = D.K.l3
 j:C.K.j = D.K.j
 now:C.K.now = D.K.now
theorem zS6.refl (C:CS):zS6 C C:=⟨rfl,rfl,rfl,rfl,rfl,rfl⟩
theorem zS6.off {C D:CS} (h:zS6 C D):C.K.off = D.K.off:=by unfold KS.off;rw [h.l2]
theorem zS6.err {C D:CS} (h:zS6 C D) (c:zAL) (G:zCu):zFB c C G = zFB c D G:=by unfold zFB;rw [h.σ]
theorem zS6.arr {C D:CS} (h:zS6 C D) (c:zAL) (x:Int) (G:zCu):zS6 (zKZ c C x G) (zKZ c D x G):=by
 have he:=h.err c G
 obtain ⟨h1,h2,h3,h4,h5,h6⟩:=h
 have ht:zTe c C G = zTe c D G:=by unfold zTe;rw [h1]
 unfold zKZ
 rw [he,ht,h1]
 split
 · unfold zVE
   rw [h2,h3,h4,h5,h6]
   exact ⟨rfl,rfl,rfl,rfl,rfl,rfl⟩
 · exact ⟨rfl,h2,h3,h4,h5,h6⟩
theorem za9 {a b:Nat} (h:a = b):(!(((a:Nat):Int) == ((b:Nat):Int))) = false:=by subst h;simp
end Go.Sx
