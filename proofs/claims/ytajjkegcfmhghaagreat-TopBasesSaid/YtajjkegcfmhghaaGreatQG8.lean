import Derived.Test.YtajjkegcfmhghaaGreatQG7
import Derived.Test.YtajjkegcfmhghaaGreatQSxBasB
import Derived.ArgAppend
import Derived.Test.YtajjkegcfmhghaaGreatQSxStos
import Derived.Test.YtajjkegcfmhghaaGreatQSxGrams
import Derived.Test.YtajjkegcfmhghaaGreatQSxDel
import Derived.Test.YtajjkegcfmhghaaGreatQSxMap
/- Where entities are shown: plain mathematics. -/
set_option linter.unusedVariables false
set_option linter.unusedSimpArgs false
namespace Go.Sx
/-! ### Pick -/
def zKW (L:List RI) (t:Int):Nat → Option (Nat × Int)
 | 0=>none
 | k + 1=>if (L.getD k default).tm ≤ t then some (k,if k + 1 = L.length then -1 else ((k + 1:Nat):Int)) else zKW L t k
def zBH (L:List RI) (t:Int):Int × Int × Nat :=
 if zDd none (tms L) ≠ 0 then (0,0,zDd none (tms L)) else match zKW L t L.length with
 | some (i,nx)=>((i:Int),nx,0)
 | none=>(0,0,5)
theorem zZQ {L:List RI} {t:Int} (h:((zDd none (tms L):Nat):Int) ≠ 0):zBH L t = (0,0,zDd none (tms L)):=if_pos (by omega)
theorem zZi {L:List RI} {t:Int} {i:Nat} {nx:Int} (h:((zDd none (tms L):Nat):Int) = 0) (hp:zKW L t L.length = some (i,nx)):zBH L t = ((i:Int),nx,0):=by
 unfold zBH;rw [if_neg (by omega),hp]
theorem zYc {L:List RI} {t:Int} (h:((zDd none (tms L):Nat):Int) = 0) (hp:zKW L t L.length = none):zBH L t = (0,0,5):=by
 unfold zBH;rw [if_neg (by omega),hp]
theorem zLB {L:List RI} {t:Int}:∀ {k i:Nat} {nx:Int},zKW L t k = some (i,nx) → i < k ∧ (L.getD i default).tm ≤ t ∧ nx = (if i + 1 = L.length then -1 else ((i + 1:Nat):Int)) ∧ ∀ j,i < j → j < k → ¬ (L.getD j default).tm ≤ t
 | 0,_,_,h=>by cases h
 | k + 1,i,nx,h=>by
   unfold zKW at h
   split at h
   · next hle=>cases h;exact ⟨Nat.lt_succ_self _,hle,rfl,fun j h1 h2=>absurd h2 (by omega)⟩
   · next hle =>
     obtain ⟨h1,h2,h3,h4⟩:=zLB h
     refine ⟨by omega,h2,h3,fun j hj1 hj2=>?_⟩
     by_cases e:j = k
     · rw [e];exact hle
     · exact h4 j hj1 (by omega)
theorem zTp {L:List RI} {t:Int} (h:(zBH L t).2.2 = 0):zDd none (tms L) = 0 ∧ ∃ i:Nat,i < L.length ∧ (zBH L t).1 = (i:Int) ∧ (L.getD i default).tm ≤ t ∧ (zBH L t).2.1 = (if i + 1 = L.length then -1 else ((i + 1:Nat):Int)) ∧ ∀ j,i < j → j < L.length → t < (L.getD j default).tm:=by
 unfold zBH at h ⊢
 by_cases he:zDd none (tms L) ≠ 0
 · rw [if_pos he] at h;exact absurd h he
 · rw [if_neg he] at h ⊢
   cases hp:zKW L t L.length with
   | none=>rw [hp] at h;cases h
   | some p =>
     obtain ⟨i,nx⟩:=p
     obtain ⟨h1,h2,h3,h4⟩:=zLB hp
     exact ⟨Decidable.not_not.1 he,i,h1,rfl,h2,h3,fun j hj1 hj2=>by have:=h4 j hj1 hj2;omega⟩
theorem zXy {L:List RI} {t:Int} {k:Nat} (h:¬ (L.getD k default).tm ≤ t):zKW L t (k + 1) = zKW L t k:=by
 show (if _ then _ else _) = _;rw [if_neg h]
theorem zT4 {L:List RI} {t:Int} {k:Nat} (h:(L.getD k default).tm ≤ t):zKW L t (k + 1) = some (k,if k + 1 = L.length then -1 else ((k + 1:Nat):Int)):=by
 show (if _ then _ else _) = _;rw [if_pos h]
/-! ### What is shown -/
structure zHS where
 id:Int
 p0:Int
 p1:Int
 p2:Int
 a:BitVec 16
 m:Int
instance : Inhabited zHS:=⟨⟨0,0,0,0,0#16,0⟩⟩
def zBt (p:zHS):List Value:=[.int .i64 p.id,.int .i64 p.p0,.int .i64 p.p1,.int .i64 p.p2,.int .u16 ((p.a.toNat:Nat):Int),.int .i64 p.m]
def zEY : List RI → Nat
 | []=>0
 | x :: l=>if zW x.t x.tm x.l ≠ 0 then zW x.t x.tm x.l else zEY l
theorem zJj {L:List RI} {j:Nat} (h:j < L.length):zEY (L.drop j) = if zW (L.getD j default).t (L.getD j default).tm (L.getD j default).l ≠ 0 then zW (L.getD j default).t (L.getD j default).tm (L.getD j default).l else zEY (L.drop (j + 1)):=by
 rw [List.drop_eq_getElem_cons h,zEY,List.getD_eq_getElem?_getD,List.getElem?_eq_getElem h];rfl
theorem zOv {L:List RI} {j:Nat} {e:Nat} (h:j < L.length) (he:zEY (L.drop j) = e) (h0:((zW (L.getD j default).t (L.getD j default).tm (L.getD j default).l:Nat):Int) = 0):zEY (L.drop (j + 1)) = e:=by
 rw [← he,zJj h,if_neg (by omega)]
theorem zRs {L:List RI} {j:Nat} {e:Nat} (h:j < L.length) (he:zEY (L.drop j) = e) (h0:((zW (L.getD j default).t (L.getD j default).tm (L.getD j default).l:Nat):Int) ≠ 0):zW (L.getD j default).t (L.getD j default).tm (L.getD j default).l = e:=by
 rw [← he,zJj h,if_pos (by omega)]
theorem zQF {L:List RI} {j:Nat} {e:Nat} (h:L.length ≤ j) (he:zEY (L.drop j) = e):0 = e:=by
 rw [← he,List.drop_eq_nil_of_le h];rfl
theorem zQr {L:List RI} (h:zEY L = 0):∀ x ∈ L,zW x.t x.tm x.l = 0:=by
 induction L with
 | nil=>intro x hx;cases hx
 | cons y l ih =>
   unfold zEY at h
   split at h
   · next h2=>exact absurd h h2
   · next h2 =>
     intro x hx
     rcases List.mem_cons.1 hx with e | e
     · rw [e];exact Decidable.not_not.1 h2
     · exact ih h x e
def zFZ (c:zAO) (L:List RI):Nat:=if zCT c ≠ 0 then zCT c else zEY L
theorem zbd {c:zAO} {L:List RI} (h:((zCT c:Nat):Int) ≠ 0):zCT c = zFZ c L:=(if_pos (by omega)).symm
theorem zW5 {c:zAO} {L:List RI} {e:Nat} (h:((zCT c:Nat):Int) = 0) (he:e = zEY L):e = zFZ c L:=by unfold zFZ;rw [if_neg (by omega),he]
theorem zSz {c:zAO} {L:List RI} (h:zFZ c L = 0):zCT c = 0 ∧ zEY L = 0:=by
 unfold zFZ at h
 split at h
 · next h2=>exact absurd h h2
 · next h2=>exact ⟨Decidable.not_not.1 h2,h⟩
def zCE (x:zS):zHS:=⟨x.id,x.p0,x.p1,x.p2,x.a,0⟩
def pL (n d x y:Int):Int:=bif zBc n d == 0 then zC3 x y n d else 0
def pC (n d x u y v:Int):Int:=bif zBc n d == 0 then cAt x u y v n d else 0
def pA (n d:Int) (x y:BitVec 16):BitVec 16:=bif zBc n d == 0 then zXp x y n d else 0#16
def pW (c:Bool) (n d x u y v:Int):Int:=bif c then pC n d x u y v else pL n d x y
def zcx (c:Bool) (n d:Int) (x y:zS):zHS:=⟨x.id,pW c n d x.p0 x.v0 y.p0 y.v0,pW c n d x.p1 x.v1 y.p1 y.v1,pW c n d x.p2 x.v2 y.p2 y.v2,pA n d x.a y.a,bif c then 2 else 1⟩
def zVk (c:Bool) (n d:Int) (B:List zS) (x:zS):zHS:=if (zAz x.id B).isSome = true ∧ ((zAz x.id B).getD zDC).g = x.g then zcx c n d x ((zAz x.id B).getD zDC) else zCE x
def zEH (c:zAO) (a b:RI) (t:Int):Nat:=if zFZ c [a,b] ≠ 0 then zFZ c [a,b] else (zAs a b t).2.2
def zDn (c:zAO) (a b:RI) (t:Int):List zHS:=if zEH c a b t ≠ 0 then [] else a.l.map (zVk c.curve (zAs a b t).1 (zAs a b t).2.1 b.l)
def zZz (m k:Int) (x:zS):zHS:=⟨x.id,zCy x.p0 (zAt x.v0 k),zCy x.p1 (zAt x.v1 k),zCy x.p2 (zAt x.v2 k),x.a,m⟩
def zEO (c:zAO) (x:RI) (t:Int):Nat:=if zFZ c [x] ≠ 0 then zFZ c [x] else (zIi x t).2
def zKQ (c:zAO) (d:Int):Int:=if d = 0 then 0 else if c.extra < d then 4 else 3
def zI5 (c:zAO) (d:Int):Int:=if d = 0 then d else if c.extra < d then c.extra else d
def zDb (c:zAO) (x:RI) (t:Int):List zHS:=if zEO c x t ≠ 0 then [] else x.l.map (zZz (zKQ c (zIi x t).1) (zI5 c (zIi x t).1))
def zEL (c:zAO) (L:List RI) (t:Int):List zHS × Nat :=
 if zFZ c L ≠ 0 then ([],zFZ c L) else if (zBH L t).2.2 ≠ 0 then ([],(zBH L t).2.2)
 else if (zBH L t).2.1 < 0 then (zDb c (L.getD (zBH L t).1.toNat default) t,zEO c (L.getD (zBH L t).1.toNat default) t)
 else (zDn c (L.getD (zBH L t).1.toNat default) (L.getD (zBH L t).2.1.toNat default) t,zEH c (L.getD (zBH L t).1.toNat default) (L.getD (zBH L t).2.1.toNat default) t)
structure RI.ok (w:World) (x:RI):Prop where
 t : -9223372036854775808 ≤ x.t ∧ x.t ≤ 9223372036854775807
 tm : -9223372036854775808 ≤ x.tm ∧ x.tm ≤ 9223372036854775807
 rd:Rd w [] x.v 9 x.l.length (x.l.flatMap zA9)
 wf:∀ e ∈ x.l,e.wf
theorem RI.ok.to {x:RI} {w0 w:World} {M:List HA} (h:x.ok w0) (hm:Mem w0 [] M w):x.ok w:=⟨h.t,h.tm,hm.rd0 h.rd,h.wf⟩
theorem zbe {x:RI} {w:World} (h:x.ok w):∀ z ∈ [x],z.ok w:=by
 intro z hz;rw [List.mem_singleton] at hz;rw [hz];exact h
theorem zbD {x y:RI} {w:World} (h:x.ok w) (h2:y.ok w):∀ z ∈ [x,y],z.ok w:=by
 intro z hz;rw [List.mem_cons,List.mem_singleton] at hz;rcases hz with e | e <;> rw [e] <;> assumption
theorem za6 {L:List RI} {w:World} (h:∀ x ∈ L,x.ok w):∀ x ∈ L,zDo x.v x.l.length:=fun x hx=>(h x hx).rd.isSl
theorem zCh {f:zS → zHS} {l:List zS} {j:Nat} (h:j < l.length):(l.take j).map f ++ [f (l.getD j default)] = (l.take (j + 1)).map f:=by
 rw [List.take_succ_eq_append_getElem h,List.map_append,List.getD_eq_getElem?_getD,List.getElem?_eq_getElem h];rfl
theorem zMX : zDC.wf:=by constructor <;> (show _ ≤ (0:Int) ∧ (0:Int) ≤ _;omega)
theorem zZE {l:List zS} {k:Int} (h:∀ e ∈ l,e.wf):((zAz k l).getD zDC).wf:=by
 cases hg:zAz k l with
 | none=>exact zMX
 | some e=>exact h e (zGa hg).1
theorem zN4 {c:zAO} {L:List RI} {x:RI} (h:zFZ c L = 0) (hx:x ∈ L):x.l.length ≤ 64:=by
 have h1:=zQr (zSz h).2 x hx
 unfold zW at h1
 split at h1
 · cases h1
 · split at h1
   · cases h1
   · omega
theorem zOs (x:RI) (t:Int) : -9223372036854775808 ≤ (zIi x t).1 ∧ (zIi x t).1 ≤ 9223372036854775807:=by
 unfold zIi
 split
 · dsimp only;omega
 · split
   · dsimp only;omega
   · exact zB3 _ _
theorem zE6 {c:zAO} {d:Int} (h:d = 0):0 = zKQ c d ∧ d = zI5 c d:=by unfold zKQ zI5;rw [if_pos h,if_pos h];exact ⟨rfl,rfl⟩
theorem zE7 {c:zAO} {d:Int} (h:d ≠ 0) (h2:c.extra < d):4 = zKQ c d ∧ c.extra = zI5 c d:=by unfold zKQ zI5;rw [if_neg h,if_neg h,if_pos h2,if_pos h2];exact ⟨rfl,rfl⟩
theorem zFE {c:zAO} {d:Int} (h:d ≠ 0) (h2:¬ c.extra < d):3 = zKQ c d ∧ d = zI5 c d:=by unfold zKQ zI5;rw [if_neg h,if_neg h,if_neg h2,if_neg h2];exact ⟨rfl,rfl⟩
theorem zY4 {c:zAO} {x:RI} {t:Int} (h:((zFZ c [x]:Nat):Int) ≠ 0):zEO c x t = zFZ c [x]:=if_pos (by omega)
theorem zRf {c:zAO} {x:RI} {t:Int} (h:zFZ c [x] = 0):zEO c x t = (zIi x t).2:=by unfold zEO;rw [if_neg (by omega)]
theorem zZV {c:zAO} {x:RI} {t:Int} (h:zEO c x t = 0):zDb c x t = x.l.map (zZz (zKQ c (zIi x t).1) (zI5 c (zIi x t).1)):=by unfold zDb;rw [if_neg (by omega)]
theorem zQW {c:zAO} {x:RI} {t:Int} (h:((zEO c x t:Nat):Int) ≠ 0):zDb c x t = []:=by unfold zDb;rw [if_pos (by omega)]
theorem zXs {c:zAO} {x y:RI} {t:Int} (h:((zFZ c [x,y]:Nat):Int) ≠ 0):zEH c x y t = zFZ c [x,y]:=if_pos (by omega)
theorem zRk {c:zAO} {x y:RI} {t:Int} (h:zFZ c [x,y] = 0):zEH c x y t = (zAs x y t).2.2:=by unfold zEH;rw [if_neg (by omega)]
theorem zXH {c:zAO} {x y:RI} {t:Int} (h:zEH c x y t = 0):zDn c x y t = x.l.map (zVk c.curve (zAs x y t).1 (zAs x y t).2.1 y.l):=by unfold zDn;rw [if_neg (by omega)]
theorem zSZ {c:zAO} {x y:RI} {t:Int} (h:((zEH c x y t:Nat):Int) ≠ 0):zDn c x y t = []:=by unfold zDn;rw [if_pos (by omega)]
theorem zXg {c:zAO} {L:List RI} {t:Int} (h:((zFZ c L:Nat):Int) ≠ 0):zEL c L t = ([],zFZ c L):=if_pos (by omega)
theorem zYO {c:zAO} {L:List RI} {t:Int} (h:zFZ c L = 0) (h2:(((zBH L t).2.2:Nat):Int) ≠ 0):zEL c L t = ([],(zBH L t).2.2):=by unfold zEL;rw [if_neg (by omega),if_pos (by omega)]
theorem zXc {c:zAO} {L:List RI} {t:Int} {i:Nat} (h:zFZ c L = 0) (h2:(zBH L t).2.2 = 0) (h3:(zBH L t).1 = (i:Int)) (h4:(zBH L t).2.1 < 0):zEL c L t = (zDb c (L.getD i default) t,zEO c (L.getD i default) t):=by
 unfold zEL;rw [if_neg (by omega),if_neg (by omega),if_pos h4,h3];rfl
theorem zZn {c:zAO} {L:List RI} {t:Int} {i k:Nat} (h:zFZ c L = 0) (h2:(zBH L t).2.2 = 0) (h3:(zBH L t).1 = (i:Int)) (h4:(zBH L t).2.1 = (k:Int)):zEL c L t = (zDn c (L.getD i default) (L.getD k default) t,zEH c (L.getD i default) (L.getD k default) t):=by
 unfold zEL;rw [if_neg (by omega),if_neg (by omega),if_neg (by omega),h3,h4];rfl
theorem zRX {l:List zS} {i:Nat} (h:i < l.length):l.getD i default ∈ l:=by
 rw [List.getD_eq_getElem?_getD,List.getElem?_eq_getElem h];exact List.getElem_mem h
theorem zcw {b:Bool} {q:Prop} (h:b = false):¬ (b = true ∧ q):=fun k=>by rw [h] at k;cases k.1
theorem zcv {p:Prop} {a b:BitVec 8} (h:((a.toNat:Nat):Int) ≠ ((b.toNat:Nat):Int)):¬ (p ∧ a = b):=fun k=>h (by rw [k.2])
theorem zZt {c:Bool} {n d:Int} {B:List zS} {x:zS} (h:(zAz x.id B).isSome = true ∧ ((zAz x.id B).getD zDC).g = x.g):zVk c n d B x = zcx c n d x ((zAz x.id B).getD zDC):=if_pos h
theorem zQU {c:Bool} {n d:Int} {B:List zS} {x:zS} (h:¬ ((zAz x.id B).isSome = true ∧ ((zAz x.id B).getD zDC).g = x.g)):zVk c n d B x = zCE x:=if_neg h
end Go.Sx
/- Slices with an offset that a call owns: elements of one cell. -/
set_option linter.unusedVariables false
set_option linter.unusedSimpArgs false
namespace Go.Sx
open Go.RowKit
variable {P : Program} {ops : Array Oper} {Q : Exit → Act → World → Prop} {rest : List Oper} {n : Nat} {F : List (Nat × Value)} {w0 : World} {S : List Nat} {M : List HA} {a : Act} {w : World}
variable {d : Nat} {ty : TypeId} {pos : String} {af : Array Edge}
def zMP (v:Value) (e:TypeId) (xs:List Value) (w:World):Prop:=(v = .slice none 0 0 ∧ xs = []) ∨
 ∃ g o cap cur,v = .slice (some ⟨g,o,none⟩) xs.length cap ∧ w.heap[g]? = some (.cells cur e (0,0)) ∧ xs.length ≤ cap ∧ cap ≤ maxLen ∧ o + cap ≤ cur.size ∧ (cur.toList.drop o).take xs.length = xs
def rwo (v:Value) (e:TypeId) (xs:List Value):HA where
 foot:=v.ownBlock.toList
 p w:=zMP v e xs w
 loc w w' h hp:=by
   rcases hp with hn | ⟨g,o,cap,cur,rfl,hg,rest⟩
   · exact .inl hn
   · refine .inr ⟨g,o,cap,cur,rfl,?_,rest⟩
     rw [h g (by simp [Value.ownBlock])]
     exact hg
 lt w h k hk:=by
   rcases h with ⟨rfl,_⟩ | ⟨g,o,cap,cur,rfl,hg,_⟩
   · simp [Value.ownBlock] at hk
   · have:k = g:=by simpa [Value.ownBlock] using hk
     subst this
     exact (Array.getElem?_eq_some_iff.1 hg).1
theorem zGR (g o j:Nat):(⟨g,o,none⟩ : Addr).add j = ⟨g,o + j,none⟩:=by unfold Addr.add;split <;> simp_all
theorem zOi {w:World} {g o:Nat} {cur:Array Value} {e:TypeId} {fr:Nat × Nat} (hg:w.heap[g]? = some (.cells cur e fr)) (j:Nat):w.cell? ⟨g,j,none⟩ = cur[j]?:=by
 simp [World.cell?,hg]
theorem zWt {v:Value} {e:TypeId} {xs:List Value} (h:zMP v e xs w):Rd w [] v 1 xs.length xs:=by
 rcases h with ⟨rfl,rfl⟩ | ⟨g,o,cap,cur,rfl,hg,h1,h2,h3,h4⟩
 · exact zRP w [] 1
 · refine ⟨⟨_,cap,rfl,h1,h2⟩,by simp,fun _=>⟨_,cap,rfl,by simp,(Array.getElem?_eq_some_iff.1 hg).1,fun j u hu=>?_⟩⟩
   rw [zGR,zOi (o:=o) hg]
   have hj:j < xs.length:=(List.getElem?_eq_some_iff.1 hu).1
   rw [← h4,List.getElem?_take,if_pos hj,List.getElem?_drop,Array.getElem?_toList] at hu
   exact hu
theorem zOZ {v x:Value} {e:TypeId} {xs:List Value} (h:zMP v e (x :: xs) w):zMP (zFw v 1 1 (xs.length + 1)) e xs w ∧ (zFw v 1 1 (xs.length + 1)).ownBlock = v.ownBlock:=by
 rcases h with ⟨_,h⟩ | ⟨g,o,cap,cur,rfl,hg,h1,h2,h3,h4⟩
 · cases h
 · simp only [List.length_cons] at h1 h4 ⊢
   by_cases hc:cap = 1
   · subst hc
     have h0:xs = []:=List.eq_nil_of_length_eq_zero (by omega)
     subst h0
     refine ⟨.inr ⟨g,o,0,cur,by simp [zFw],hg,by simp,by simp [maxLen],by omega,by simp⟩,by simp [zFw,Value.ownBlock]⟩
   · refine ⟨.inr ⟨g,o + 1,cap - 1,cur,by simp [zFw,hc,zGR],hg,by omega,by omega,by omega,?_⟩,by simp [zFw,hc,Value.ownBlock,zGR]⟩
     have h5:=congrArg (List.drop 1) h4
     rw [List.drop_take,List.drop_drop] at h5
     simpa using h5
theorem zN3 {v x:Value} {e:TypeId} {xs:List Value} (h:zMP v e (xs ++ [x]) w):zMP (zFw v 1 0 xs.length) e xs w ∧ (zFw v 1 0 xs.length).ownBlock = v.ownBlock:=by
 rcases h with ⟨_,h⟩ | ⟨g,o,cap,cur,rfl,hg,h1,h2,h3,h4⟩
 · simp at h
 · simp only [List.length_append,List.length_singleton] at h1 h4
   refine ⟨.inr ⟨g,o,cap,cur,by simp [zFw,show ¬ cap = 0 by omega,zGR],hg,by omega,h2,h3,?_⟩,by simp [zFw,show ¬ cap = 0 by omega,Value.ownBlock,zGR]⟩
   have h5:=congrArg (List.take xs.length) h4
   rw [List.take_take,Nat.min_eq_left (by omega)] at h5
   simpa using h5
theorem zIZ {v v':Value} {e:TypeId} {xs xs':List Value} (h:zMP v' e xs' w) (hb:v'.ownBlock = v.ownBlock):Mem w (zL [rwo v e xs]) [rwo v' e xs'] w:=by
 refine ⟨Chg.refl _ _,?_,by cases hv:v'.ownBlock <;> simp [zL,rwo,hv],fun k hk=>.inl (by simpa [zL,rwo,hb] using hk)⟩
 intro y hy
 simp only [List.mem_singleton] at hy
 subst hy
 exact h
theorem St.rwoInit {v x:Value} {e:TypeId} {xs:List Value} {M':List HA} (hs:St n F w0 S M a w) (hb:Del M (rwo v e (xs ++ [x])) M'):St n F w0 S (rwo (zFw v 1 0 xs.length) e xs :: M') a w :=
 hs.frame (.c hb .n) (zIZ (zN3 (hs.mem.del hb)).1 (zN3 (hs.mem.del hb)).2)
theorem zSV {v:Value} {e:TypeId} {b:Nat} {xs:List Value} (h:w.ownsRow b e 1 v xs.length xs):zMP v e xs w:=by
 rcases h.2 with ⟨rfl,h0⟩ | ⟨g,cap,cur,rfl,_,hg,h1,h2,h3,h4⟩
 · exact .inl ⟨rfl,List.eq_nil_of_length_eq_zero h0⟩
 · exact .inr ⟨g,0,cap,cur,rfl,hg,h1,h2,by omega,by simpa using h4⟩
theorem zWA {L xs:List Value} {u:Value} (h:L.take xs.length = xs) (hl:xs.length < L.length):(L.set xs.length u).take (xs.length + 1) = xs ++ [u]:=by
 conv=>rhs;rw [← h]
 generalize xs.length = n at *
 rw [List.take_add_one,List.getElem?_set_self hl,List.take_set_of_le (Nat.le_refl _)]
 rfl
theorem zWG {t ty e : TypeId} {i : TypeInfo} {z u : Value} {bytes : Nat} (ht : P.underlying t = some (.slice e)) (hi : P.info? e = some i) (hz : i.zero = some z) (hsize : i.size = 1) (hby : i.bytes = bytes) (hzs : z.cells.size = 1)
   {v:Value} {xs:List Value} (h:zMP v e xs w) {ad:Addr} {c:Nat} (hnews:∀ j x,[u][j]? = some x → w.cell? (ad.add j) = some x) (h1:u.oneCell' = true)
   (h63:xs.length + 1 ≤ maxLen) (hbytes:(xs.length + 1) * bytes ≤ 140737488355328) :
   ∃ v' w',(Builtin.append_ #[t,t] ty #[v,.slice (some ad) 1 c]).run P w = .ok v' w' ∧ zMP v' e (xs ++ [u]) w' ∧ w.grownBy w' v.ownBlock ∧ (v'.ownBlock = v.ownBlock ∨ ∃ b,v'.ownBlock = some b ∧ w.heap.size ≤ b):=by
 have h1':∀ x ∈ [u],x.oneCell' = true:=by intro x hx;rw [List.mem_singleton] at hx;rw [hx];exact h1
 have hl:(xs ++ [u]).length = xs.length + 1:=by simp
 rcases h with ⟨rfl,rfl⟩ | ⟨g,o,cap,cur,rfl,hg,a1,a2,a3,a4⟩
 · obtain ⟨v',w',hr,h2,h3,_,h5⟩:=run_append_own_at (P:=P) w 0 t ty e i z 1 bytes ht hi hz hsize hby hzs (by decide) _ 0 [] (World.ownsRow_nil w 0 e 1) ad 1 c [u] rfl hnews h1' h63 hbytes (Nat.zero_le _)
   exact ⟨v',w',hr,zSV (by simpa using h2),h3,h5.imp id fun h=>⟨_,h,Nat.le_refl _⟩⟩
 · by_cases hroom:xs.length + 1 ≤ cap
   · have hr := run_append_room_cells (P := P) w t ty e i ht hi g o xs.length cap ad 1 c [u] (by simp [hsize]) hnews h1' hroom
       (fun j hj=>by
         have:j = 0:=by simpa using hj
         subst this
         rw [zOi (o:=o) hg,hsize,Nat.mul_one,Nat.add_zero,Array.getElem?_eq_getElem (by omega)];rfl)
       (fun j hj=>by simp [World.frozen?,hg])
     rw [hsize,Nat.mul_one] at hr
     refine ⟨_,_,hr,.inr ⟨g,o,cap,cur.setIfInBounds (o + xs.length) u,by rw [hl],?_,by omega,a2,by simpa using a3,?_⟩,⟨rfl,rfl,rfl,by simp [World.setCells,World.setCell],fun k hk hS=>?_⟩,.inl rfl⟩
     · simp [World.setCells,World.setCell,Array.getElem?_modify,hg]
     · rw [hl,Array.toList_setIfInBounds,List.drop_set,if_neg (by omega),show o + xs.length - o = xs.length by omega]
       exact zWA a4 (by simp;omega)
     · have:¬ g = k:=fun e=>hS (by simp [Value.ownBlock,e])
       simp [World.setCells,World.setCell,Array.getElem?_modify,this]
   · obtain ⟨v', w', hr, h2, h3⟩ := run_append_arg_grows (P := P) w t ty e i z 1 bytes ht hi hz hsize hby hzs (by decide) ⟨g, o, none⟩ xs.length cap xs (by simp)
       (fun j x hx=>(zWt (.inr ⟨g,o,cap,cur,rfl,hg,a1,a2,a3,a4⟩)).at_ (by have:=(List.getElem?_eq_some_iff.1 hx).1;omega) |> fun ⟨ad',c',e',_,_,hcell⟩=>by injection e' with e1 _ _;injection e1 with e1;subst e1;exact hcell j x hx)
       ad 1 c [u] rfl hnews (by omega) h63 hbytes
     have hv:∃ b,v'.ownBlock = some b ∧ w.heap.size ≤ b:=by
       rcases h2.2 with ⟨_,h0⟩ | ⟨g',cap',cur',rfl,hb,hg',_⟩
       · omega
       · exact ⟨g',rfl,hb⟩
     exact ⟨v',w',hr,zSV (by simpa using h2),⟨h3.os,h3.tape,h3.output,h3.size,fun k hk _=>h3.block k hk (by simp)⟩,.inr hv⟩
theorem zWJ {w':World} {v v':Value} {e:TypeId} {xs xs':List Value} (hg:w.grownBy w' v.ownBlock) (ho:zMP v' e xs' w') (hat:v'.ownBlock = v.ownBlock ∨ ∃ b,v'.ownBlock = some b ∧ w.heap.size ≤ b):Mem w (zL [rwo v e xs]) [rwo v' e xs'] w':=by
 refine ⟨⟨hg.os,hg.tape,hg.output,hg.size,fun k hk hS=>hg.block k hk (fun e=>hS (by simp [zL,rwo,← e]))⟩,?_,by cases hv:v'.ownBlock <;> simp [zL,rwo,hv],fun k hk=>?_⟩
 · intro y hy
   simp only [List.mem_singleton] at hy
   subst hy
   exact ho
 · simp only [zL,rwo,List.flatMap_cons,List.flatMap_nil,List.append_nil,Option.mem_toList] at hk ⊢
   rcases hat with h | ⟨b,h,hb⟩
   · left;rw [← h];exact hk
   · right
     have h2:some k = some b:=hk.symm.trans h
     injection h2 with h2
     omega
theorem zJp {x y : Operand} {v u uv z : Value} {t e : TypeId} {bytes : Nat} {xs : List Value} {T : List Nat} {M' : List HA} {i : TypeInfo}
   (hs:St n F w0 S M a w) (hx:evo F x = some v) (hy:evo F y = some uv) (hb:Del M (rwo v e xs) M') (hr:Rd w T uv 1 1 [u]) (h1:u.oneCell' = true)
   (ht:P.underlying t = some (.slice e)) (hi:P.info? e = some i) (hz:i.zero = some z) (hsize:i.size = 1) (hby:i.bytes = bytes) (hzs:z.cells.size = 1)
   (hbytes:(xs.length + 1) * bytes ≤ 140737488355328) (h63:xs.length + 1 ≤ maxLen) (hd:Nat.blt d n = true)
   (k:∀ v' a w,St n ((d,v') :: F) w0 S (rwo v' e (xs ++ [u]) :: M') a w → wpList P ops Q rest a w) :
   wpList P ops Q (⟨some d,.call { callee:=.builtin .append,args:=#[x,y],argTypes:=#[t,t] },ty,pos,af,none⟩ :: rest) a w:=by
 obtain ⟨ad,c,rfl,_,_,hcell⟩:=hr.at_ (by decide)
 obtain ⟨v',w',hrun,h2,h3,h5⟩:=zWG (P:=P) (w:=w) (ty:=ty) (c:=c) ht hi hz hsize hby hzs (hs.mem.del hb) hcell h1 h63 hbytes
 refine zDi rfl rfl (v:=v') (w':=w') ?_ (k v' _ _ ((hs.frame (.c hb .n) (zWJ h3 h2 h5)).put hd v'))
 simp [execOp,resolve,invoke,builtin,hs.ev hx,hs.ev hy,hrun]
theorem St.rerwo {v:Value} {e:TypeId} {xs xs':List Value} {M':List HA} (hs:St n F w0 S M a w) (hb:Del M (rwo v e xs) M') (hx:xs = xs'):St n F w0 S (rwo v e xs' :: M') a w :=
 hs.frame (.c hb .n) (zIZ (by rw [← hx];exact hs.mem.del hb) rfl)
/-! ### Numbers -/
def iV (l:List Int):List Value:=l.map (Value.int .i64)
theorem zEU (l:List Int):(iV l).length = l.length:=by simp [iV]
theorem zJm (l:List Int) (j:Nat) (h:j < l.length):(iV l)[j]? = some (.int .i64 (l.getD j 0)):=by
 simp [iV,List.getD_eq_getElem?_getD,List.getElem?_eq_getElem h]
theorem zJd (l:List Int) (x:Int):iV l ++ [.int .i64 x] = iV (l ++ [x]):=by simp [iV]
theorem zSj {l:List Int} (h:((l.length:Nat):Int) = 0):Value.tuple #[.int .i64 0,.bool false] = Value.tuple #[.int .i64 (l.getD 0 0),.bool (decide (0 < l.length))]:=by
 rw [show l = [] from List.eq_nil_of_length_eq_zero (by omega)];rfl
theorem zPq {l:List Int} (h:¬ ((l.length:Nat):Int) = 0):Value.tuple #[.int .i64 (l.getD 0 0),.bool true] = Value.tuple #[.int .i64 (l.getD 0 0),.bool (decide (0 < l.length))]:=by
 rw [show decide (0 < l.length) = true from decide_eq_true (by omega)]
def zDN (v:Value) (l:List Int) (x:Int):Value:=if l.getD 0 0 = x then zFw v 1 1 l.length else v
def zJ4 (l:List Int) (x:Int):List Int:=if l.getD 0 0 = x then l.drop 1 else l
theorem zUK {v:Value} {l:List Int} {x:Int} (h:l.getD 0 0 = x):zFw v 1 1 l.length = zDN v l x:=(if_pos h).symm
theorem zVr {v:Value} {l:List Int} {x:Int} (h:¬ l.getD 0 0 = x):v = zDN v l x:=(if_neg h).symm
theorem zNj {v:Value} {e:TypeId} {l:List Int} (x:Int) (hl:0 < l.length) (h:zMP v e (iV l) w):zMP (zDN v l x) e (iV (zJ4 l x)) w ∧ (zDN v l x).ownBlock = v.ownBlock:=by
 unfold zDN zJ4
 by_cases hx:l.getD 0 0 = x
 · rw [if_pos hx,if_pos hx]
   cases l with
   | nil=>cases hl
   | cons y t =>
     have:=zOZ (v:=v) (x:=.int .i64 y) (xs:=iV t) (e:=e) (by simpa [iV] using h)
     rw [zEU] at this
     exact this
 · rw [if_neg hx,if_neg hx]
   exact ⟨h,rfl⟩
theorem St.rwoDrop {v:Value} {e:TypeId} {l:List Int} {M':List HA} (hs:St n F w0 S M a w) (hb:Del M (rwo v e (iV l)) M') (x:Int) (hl:0 < l.length):St n F w0 S (rwo (zDN v l x) e (iV (zJ4 l x)) :: M') a w :=
 hs.frame (.c hb .n) (zIZ (zNj x hl (hs.mem.del hb)).1 (zNj x hl (hs.mem.del hb)).2)
def zKj (f:Int → Int → Bool) (l:List Int) (x:Int):Nat → Nat
 | 0=>0
 | k + 1=>if f (l.getD k 0) x then zKj f l x k else k + 1
def zDr (f:Int → Int → Bool) (l:List Int) (x:Int):List Int:=l.take (zKj f l x l.length) ++ [x]
theorem zRn {f:Int → Int → Bool} {l:List Int} {x:Int} {k m:Nat} (h:zKj f l x k = m) (h0:0 < k) (hf:f (l.getD (k - 1) 0) x = true):zKj f l x (k - 1) = m:=by
 obtain ⟨j,rfl⟩ : ∃ j,k = j + 1:=⟨k - 1,by omega⟩
 rw [zKj,show j + 1 - 1 = j from rfl] at *
 rw [if_pos hf] at h
 exact h
theorem zJi {f:Int → Int → Bool} {l:List Int} {x:Int} {k m:Nat} (h:zKj f l x k = m) (hf:k = 0 ∨ f (l.getD (k - 1) 0) x = false):k = m:=by
 rcases Nat.eq_zero_or_pos k with h0 | h0
 · subst h0;exact h
 · obtain ⟨j,rfl⟩ : ∃ j,k = j + 1:=⟨k - 1,by omega⟩
   rcases hf with hf | hf
   · omega
   · rw [show j + 1 - 1 = j from rfl] at hf
     rw [zKj,if_neg (by rw [hf];decide)] at h
     exact h
theorem St.rwoPop {v:Value} {e:TypeId} {l:List Int} {k:Nat} {M':List HA} (hs:St n F w0 S M a w) (hb:Del M (rwo v e (iV (l.take k))) M') (h0:0 < k) (hk:k ≤ l.length):St n F w0 S (rwo (zFw v 1 0 (k - 1)) e (iV (l.take (k - 1))) :: M') a w:=by
 have e1:iV (l.take k) = iV (l.take (k - 1)) ++ [.int .i64 (l.getD (k - 1) 0)]:=by
   rw [zJd]
   congr 1
   rw [List.getD_eq_getElem?_getD,List.getElem?_eq_getElem (by omega)]
   conv=>lhs;rw [show k = (k - 1) + 1 by omega]
   rw [List.take_add_one,List.getElem?_eq_getElem (by omega)]
   rfl
 rw [e1] at hb
 have h2:=hs.rwoInit hb
 rw [zEU,List.length_take,Nat.min_eq_left (by omega)] at h2
 exact h2
theorem zAx {v:Value} {e:TypeId} {l:List Int} {m:Nat} (h:zMP v e (iV l) w) (hn:l.length = m):Rd w [] v 1 m (iV l):=by
 have:=zWt h
 rw [zEU,hn] at this
 exact this
theorem zZP (l:List Int) (k j:Nat) (hj:j < k) (hk:k ≤ l.length):(iV (l.take k))[j]? = some (.int .i64 (l.getD j 0)):=by
 rw [zJm _ j (by rw [List.length_take];omega)]
 simp only [List.getD_eq_getElem?_getD,List.getElem?_take,if_pos hj]
theorem zZT {v:Value} {e:TypeId} {xs:List Value} (h:(rwo v e xs).p w):Mem w (zL [rwo v e xs]) [rwo v e xs] w:=zIZ h rfl
def zVx (c:Int) (l:List Int) (x:Int):List Int:=(if ((l.length:Nat):Int) = c then l.drop 1 else l) ++ [x]
def wD (c:Int) (l q:List Int):List Int:=if ((l.length:Nat):Int) = c then zJ4 q (l.getD 0 0) else q
theorem zKz (q:List Int) (x:Int):(zJ4 q x).length ≤ q.length:=by unfold zJ4;split <;> simp
theorem zL5 {v:Value} {m:Nat} (l:List Int) (x:Int) (h:zDo v m):∃ k,zDo (zDN v l x) k:=by
 obtain ⟨A,c,rfl⟩:=h
 unfold zDN
 split
 · exact ⟨_,_,_,rfl⟩
 · exact ⟨_,_,_,rfl⟩
theorem zWS {v:Value} {e:TypeId} {l:List Int} (hl:0 < l.length) (h:zMP v e (iV l) w):zMP (zFw v 1 1 l.length) e (iV (l.drop 1)) w ∧ (zFw v 1 1 l.length).ownBlock = v.ownBlock:=by
 cases l with
 | nil=>cases hl
 | cons y t =>
   have:=zOZ (v:=v) (x:=.int .i64 y) (xs:=iV t) (e:=e) (by simpa [iV] using h)
   rw [zEU] at this
   exact this
theorem St.rwoTl {v:Value} {e:TypeId} {l:List Int} {M':List HA} (hs:St n F w0 S M a w) (hb:Del M (rwo v e (iV l)) M') (hl:0 < l.length):St n F w0 S (rwo (zFw v 1 1 l.length) e (iV (l.drop 1)) :: M') a w :=
 hs.frame (.c hb .n) (zIZ (zWS hl (hs.mem.del hb)).1 (zWS hl (hs.mem.del hb)).2)
end Go.Sx
/- A clock's states: plain mathematics. -/
set_option linter.unusedVariables false
namespace Go.Sx
structure KS where
 l1:List Int
 l2:List Int
 l3:List Int
 s:Int
 t:Int
 b:Int
 j:Int
 now:Int
abbrev gtI : Int → Int → Bool:=fun p q=>decide (q < p)
abbrev ltI : Int → Int → Bool:=fun p q=>decide (p < q)
def KS.off (K:KS):Int:=K.l2.getD 0 0
def zYE (c:zAO) (K:KS) (x y:Int):KS :=
 let d:=zBQ x y
 let m2:=zDr gtI (wD c.window K.l1 K.l2) d
 let j:=zEc K.j (zBQ d (m2.getD 0 0))
 ⟨zVx c.window K.l1 d,m2,zDr ltI (wD c.window K.l1 K.l3) d,K.s,K.t,K.b,j,zTQ c K.now j⟩
def zTu (K:KS) (x:Int):Int:=zBQ (zBQ x (K.l2.getD 0 0)) K.now
def zRw (c:zAO) (K:KS) (x:Int):KS:=if 0 < K.l2.length then { K with s:=sS c.num c.den K.s K.t K.b x (zTu K x),t:=sT K.t K.b x,b:=1 } else K
def kTm (c:zAO) (K:KS) (x:Int):Int:=if 0 < K.l2.length then sS c.num c.den K.s K.t K.b x (zTu K x) else 0
def K0 (c:zAO):KS:=⟨[],[],[],0,0,0,0,zI4 c 0⟩
structure KS.ok (c:zAO) (K:KS):Prop where
 h1:((K.l1.length:Nat):Int) ≤ c.window
 s2:K.l2.Sublist K.l1
 s3:K.l3.Sublist K.l1
 h0:0 < K.l1.length → 0 < K.l2.length ∧ 0 < K.l3.length
 r:∀ x ∈ K.l1,R64 x
 s:R64 K.s
 t:R64 K.t
 j:R64 K.j
 now:c.least ≤ K.now ∧ K.now ≤ c.most
theorem zaV {c:Int} {l q:List Int} (h:q.Sublist l):(wD c l q).Sublist (if ((l.length:Nat):Int) = c then l.drop 1 else l):=by
 unfold wD
 split
 · unfold zJ4
   cases l with
   | nil=>have:=List.sublist_nil.1 h;subst this;simp
   | cons y l =>
     cases q with
     | nil=>simp
     | cons z q =>
       show List.Sublist (if (z :: q).getD 0 0 = (y :: l).getD 0 0 then (z :: q).drop 1 else z :: q) l
       by_cases hz:z = y
       · rw [if_pos (by simpa using hz)]
         subst hz
         simpa using h
       · rw [if_neg (by simpa using hz)]
         cases h with
         | cons _ h=>exact h
         | cons_cons _ h=>exact absurd rfl hz
 · exact h
theorem zTH {f:Int → Int → Bool} {q l:List Int} {x:Int} (h:q.Sublist l):(zDr f q x).Sublist (l ++ [x]):=by
 unfold zDr
 exact List.Sublist.append ((List.take_sublist _ _).trans h) (List.Sublist.refl _)
theorem zML (f:Int → Int → Bool) (q:List Int) (x:Int):0 < (zDr f q x).length:=by unfold zDr;simp
theorem zNU {c:Int} {l:List Int} {x y:Int} (h:y ∈ zVx c l x):y ∈ l ∨ y = x:=by
 unfold zVx at h
 rcases List.mem_append.1 h with h | h
 · left
   split at h
   · exact List.mem_of_mem_drop h
   · exact h
 · right;simpa using h
theorem zKv {l:List Int} (h:∀ x ∈ l,R64 x):R64 (l.getD 0 0):=by
 cases l with
 | nil=>show R64 0;omega
 | cons x l=>exact h x (by simp)
theorem KS.ok.r2 {c:zAO} {K:KS} (h:K.ok c):∀ x ∈ K.l2,R64 x:=fun x hx=>h.r x (h.s2.subset hx)
theorem zMu {c:zAO} {K:KS} (h:K.ok c) (x:Int) (f:Int → Int → Bool) {q:List Int} (hq:q.Sublist K.l1):(zDr f (wD c.window K.l1 q) x).Sublist (zVx c.window K.l1 x):=zTH (zaV hq)
theorem zXz {c:zAO} {K:KS} (h:K.ok c) {d:Int} (hd:R64 d):R64 ((zDr gtI (wD c.window K.l1 K.l2) d).getD 0 0):=by
 refine zKv fun y hy=>?_
 rcases zNU ((zMu h d gtI h.s2).subset hy) with h1 | h1
 · exact h.r y h1
 · rw [h1];exact hd
theorem zQC {x y:Int} (hx:R64 x) (hy:R64 y):R64 (zEc x y):=by
 have:=zQq hx.2 hy.2
 omega
theorem zXb {c:zAO} {K:KS} {x y:Int} (hk:zCT c = 0) (h:K.ok c):(zYE c K x y).ok c:=by
 obtain ⟨⟨_,_,hw,_⟩,hd,_⟩:=zFp hk
 have hdr:R64 (zBQ x y):=zB3 _ _
 refine ⟨?_,zMu h _ _ h.s2,zMu h _ _ h.s3,fun _=>⟨zML _ _ _,zML _ _ _⟩,fun z hz=>?_,h.s,h.t,?_,?_⟩
 · show (((zVx c.window K.l1 (zBQ x y)).length:Nat):Int) ≤ c.window
   unfold zVx
   have:=h.h1
   split
   · simp only [List.length_append,List.length_drop,List.length_singleton];omega
   · simp only [List.length_append,List.length_singleton];omega
 · rcases zNU hz with h1 | h1
   · exact h.r z h1
   · rw [h1];exact hdr
 · exact zQC h.j (zB3 _ _)
 · exact zV7 hd h.now
theorem zcp {b x y:Int} (hx:R64 x) (hy:R64 y):R64 (sP b x y):=by unfold sP;split <;> assumption
theorem zSx {c:zAO} {K:KS} {x:Int} (hx:R64 x) (h:K.ok c):(zRw c K x).ok c:=by
 unfold zRw
 split
 · have hw:R64 (zTu K x):=zB3 _ _
   have h1:=zcp (b:=K.b) hw h.s
   have h2:=zcp (b:=K.b) hx h.t
   refine ⟨h.h1,h.s2,h.s3,h.h0,h.r,?_,?_,h.j,h.now⟩
   · show R64 (sS _ _ _ _ _ _ _)
     unfold sS sS1
     have:=zKU (sP K.b (zTu K x) K.s) (zEQ (zBQ (max x (sP K.b x K.t)) (sP K.b x K.t)) c.num c.den)
     omega
   · show R64 (sT _ _ _)
     unfold sT
     omega
 · exact h
theorem zcA {c:zAO} (hk:zCT c = 0):(K0 c).ok c:=by
 obtain ⟨⟨_,_,hw,_⟩,hd,_⟩:=zFp hk
 exact ⟨by show (0:Int) ≤ _;omega,List.Sublist.refl _,List.Sublist.refl _,fun h=>absurd h (Nat.lt_irrefl 0),fun x hx=>(by cases hx),by show R64 0;omega,by show R64 0;omega,by show R64 0;omega,zJ7 hd⟩
theorem St.addO {n:Nat} {F:List (Nat × Value)} {w0 w:World} {S:List Nat} {M:List HA} {a:Act} (hs:St n F w0 S M a w) (e:TypeId):St n F w0 S (rwo (.slice none 0 0) e (iV []) :: M) a w:=by
 refine hs.frame (N:=[rwo (.slice none 0 0) e (iV [])]) .n ⟨Chg.refl _ _,?_,by simp [zL,rwo,Value.ownBlock],by simp [zL,rwo,Value.ownBlock]⟩
 intro h hh
 simp only [List.mem_singleton] at hh
 subst hh
 exact .inl ⟨rfl,rfl⟩
structure KP where
 k:Nat
 wg:Nat
 sg:Nat
 jg:Nat
 dg:Nat
 v1:Value
 v2:Value
 v3:Value
 cn:Int
 ch:Int
def KP.on (p:KP) (k:Nat):KP:={ p with k:=k }
end Go.Sx
/- The client: plain mathematics. -/
set_option linter.unusedVariables false
set_option linter.unusedSimpArgs false
namespace Go.Sx
/-! ### What is kept is of numbers of 64 bits -/
def Wfs (l:List zAC):Prop:=∀ s ∈ l,∀ e ∈ s.l,e.wf
theorem zN5 {r:zX} (h:r.wf):(zEu r).wf:=⟨h.id,h.p0,h.p1,h.p2,h.v0,h.v1,h.v2⟩
theorem zM4 {a:zS} {r:zX} (ha:a.wf) (h:r.wf):(zT a r).1.wf:=by
 unfold zT
 split
 · exact zMX
 · split
   · exact zMX
   · split
     · exact ⟨ha.id,h.p0,h.p1,h.p2,h.v0,h.v1,h.v2⟩
     · exact ⟨ha.id,zBs _,zBs _,zBs _,zBs _,zBs _,zBs _⟩
theorem zKc {x:zS} {l:List zS} (hx:x.wf) (h:∀ e ∈ l,e.wf):∀ e ∈ x :: l,e.wf:=by
 intro e he;rcases List.mem_cons.1 he with h1 | h1
 · rw [h1];exact hx
 · exact h e h1
theorem zax : ∀ (n:Nat) (was:List zS) (l:List zX),was.length + l.length ≤ n → (∀ e ∈ was,e.wf) → (∀ r ∈ l,r.wf) → ∀ out,apl was l = some out → ∀ e ∈ out,e.wf:=by
 intro n
 induction n with
 | zero =>
   intro was l hn hw hl out h
   cases l with
   | nil=>rw [zEv] at h;cases h;exact hw
   | cons r l=>simp at hn
 | succ n ih =>
   intro was l hn hw hl out h
   cases l with
   | nil=>rw [zEv] at h;cases h;exact hw
   | cons r l =>
     have hr:=hl r (by simp)
     have hl2:∀ r ∈ l,r.wf:=fun x hx=>hl x (by simp [hx])
     cases was with
     | nil =>
       unfold apl at h
       split at h
       · rw [Option.map_eq_some_iff] at h
         obtain ⟨o,h1,rfl⟩:=h
         exact zKc (zN5 hr) (ih [] l (by simp at hn ⊢;omega) hw hl2 o h1)
       · cases h
     | cons x was =>
       have hx:=hw x (by simp)
       have hw2:∀ e ∈ was,e.wf:=fun e he=>hw e (by simp [he])
       simp only [List.length_cons] at hn
       unfold apl at h
       split at h
       · rw [Option.map_eq_some_iff] at h
         obtain ⟨o,h1,rfl⟩:=h
         exact zKc hx (ih was (r :: l) (by simp only [List.length_cons];omega) hw2 hl o h1)
       · split at h
         · split at h
           · cases h
           · split at h
             · exact ih was l (by omega) hw2 hl2 out h
             · rw [Option.map_eq_some_iff] at h
               obtain ⟨o,h1,rfl⟩:=h
               exact zKc (zM4 hx hr) (ih was l (by omega) hw2 hl2 o h1)
         · split at h
           · rw [Option.map_eq_some_iff] at h
             obtain ⟨o,h1,rfl⟩:=h
             exact zKc (zN5 hr) (ih (x :: was) l (by simp only [List.length_cons];omega) hw hl2 o h1)
           · cases h
theorem zce {at_ atm:Int} {a:List zS} {gt gtm gb:Int} {rl:List zX} (ha:∀ e ∈ a,e.wf) (hr:∀ r ∈ rl,r.wf):∀ e ∈ (aS at_ atm a gt gtm gb rl).l,e.wf:=by
 unfold aS
 split
 · intro e he
   cases ho:apl (zEz gb a) rl with
   | none=>rw [ho] at he;simp at he
   | some o =>
     rw [ho] at he
     refine zax _ _ _ (Nat.le_refl _) (fun e he=>?_) hr o ho e he
     unfold zEz at he
     split at he
     · exact ha e he
     · cases he
 · intro e he;cases he
theorem zYx {l:List zAC} (h:Wfs l) (k:Int):∀ e ∈ (zFK l k).l,e.wf:=by
 unfold zFK
 split
 · rename_i hk
   rw [List.getD_eq_getElem?_getD]
   cases ho:l[zAT l k]? with
   | none=>intro e he;cases he
   | some s=>exact h s (List.mem_of_getElem? ho)
 · intro e he;cases he
theorem zUZ {l:List zAC} {most:Nat} {x:zAC} (h:Wfs l) (hx:∀ e ∈ x.l,e.wf):Wfs (zHR l most x):=by
 have hk:Wfs (zBj l (zAT l x.t) x):=by
   intro s hs
   unfold zBj at hs
   rcases List.mem_append.1 hs with h1 | h1
   · exact h s (List.mem_of_mem_take h1)
   · rcases List.mem_cons.1 h1 with h2 | h2
     · rw [h2];exact hx
     · exact h s (List.mem_of_mem_drop h2)
 unfold zHR
 split
 · exact hk
 · exact fun s hs=>hk s (List.mem_of_mem_drop hs)
theorem zYg {most:Nat} {σ:Stt} {bs:List zP} (h:Wfs σ.l):Wfs (zBp most σ (zA bs)).l:=by
 unfold zBp
 split
 · exact zUZ h (zce (zYx h _) (zKq bs))
 · exact h
/-! ### What is shown, of snapshots as such -/
def zcy (s:zAC):RI:=⟨s.t,s.tm,s.l,.slice none 0 0⟩
def riF (x:RI):RI:=zcy x.sn
def zCU (c:zAO) (l:List zAC) (t:Int):List zHS × Nat:=zEL c (l.map zcy) t
theorem zcF (L:List RI):tms (L.map riF) = tms L:=by unfold tms;rw [List.map_map];rfl
theorem zRm : ∀ L:List RI,zEY (L.map riF) = zEY L
 | []=>rfl
 | x :: L=>by
   show (if _ then _ else zEY (L.map riF)) = _
   rw [zRm L];rfl
theorem zRW (L:List RI) (i:Nat):(L.map riF).getD i default = riF (L.getD i default):=by
 rw [List.getD_eq_getElem?_getD,List.getD_eq_getElem?_getD,List.getElem?_map]
 cases L[i]? <;> rfl
theorem zW3 (L:List RI) (t:Int):∀ k,zKW (L.map riF) t k = zKW L t k
 | 0=>rfl
 | k + 1=>by unfold zKW;rw [zW3 L t k,zRW,List.length_map];rfl
theorem zZf (L:List RI) (t:Int):zBH (L.map riF) t = zBH L t:=by unfold zBH;rw [zcF,zW3,List.length_map]
theorem zS5 (c:zAO) (L:List RI):zFZ c (L.map riF) = zFZ c L:=by unfold zFZ;rw [zRm]
theorem zP9 (c:zAO) (x:RI) (t:Int):zEO c (riF x) t = zEO c x t:=by
 have h:=zS5 c [x]
 unfold zEO;rw [show [riF x] = [x].map riF from rfl,h];rfl
theorem zYa (c:zAO) (x:RI) (t:Int):zDb c (riF x) t = zDb c x t:=by unfold zDb;rw [zP9];rfl
theorem zQy (c:zAO) (x y:RI) (t:Int):zEH c (riF x) (riF y) t = zEH c x y t:=by
 have h:=zS5 c [x,y]
 unfold zEH;rw [show [riF x,riF y] = [x,y].map riF from rfl,h];rfl
theorem zZW (c:zAO) (x y:RI) (t:Int):zDn c (riF x) (riF y) t = zDn c x y t:=by unfold zDn;rw [zQy];rfl
theorem zYi (c:zAO) (L:List RI) (t:Int):zEL c (L.map riF) t = zEL c L t:=by
 unfold zEL;rw [zS5,zZf,zRW,zRW,zYa,zP9,zZW,zQy]
theorem zV3 (c:zAO) (L:List RI) (t:Int):zEL c L t = zCU c (sns L) t:=by
 unfold zCU;rw [sns,List.map_map];exact (zYi c L t).symm
/-! ### States -/
structure CS where
 σ:Stt
 K:KS
 fr:Nat
structure ShR where
 ready:Bool
 time:Int
 l:List zHS
def zAO.keep (c:zAO):Nat:=c.ring.toNat
def zEN (c:zAO) (C:CS) (G:zBx):Nat:=zBF C.σ.l c.keep C.σ.floor C.σ.gone G
def zcQ (c:zAO) (C:CS) (G:zBx):Int:=(zFK (zBp c.keep C.σ G).l (zJD C.σ.l c.keep C.σ.floor C.σ.gone G)).tm
def zIw (c:zAO) (C:CS) (x:Int) (G:zBx):CS:=⟨zBp c.keep C.σ G,if zEN c C G = 0 then zYE c C.K x (zcQ c C G) else C.K,C.fr⟩
def zWk (c:zAO) (C:CS) (x:Int):CS:=⟨C.σ,zRw c C.K x,C.fr + 1⟩
def zCV (c:zAO) (C:CS) (x:Int):ShR:=if 0 < C.K.l2.length then ⟨true,kTm c C.K x,(zCU c C.σ.l (kTm c C.K x)).1⟩ else ⟨false,0,[]⟩
def C0 (c:zAO):CS:=⟨zWa,K0 c,0⟩
structure CS.ok (c:zAO) (C:CS):Prop where
 k:C.K.ok c
 wf:Wfs C.σ.l
theorem zat {c:zAO} (hk:zCT c = 0):(C0 c).ok c:=⟨zcA hk,fun s hs=>by cases hs⟩
theorem zMo {c:zAO} {C:CS} {x:Int} {bs:List zP} (hk:zCT c = 0) (h:C.ok c):(zIw c C x (zA bs)).ok c:=by
 refine ⟨?_,zYg h.wf⟩
 show KS.ok c (if _ then _ else _)
 split
 · exact zXb hk h.k
 · exact h.k
theorem zNK {c:zAO} {C:CS} {x:Int} (hx:R64 x) (h:C.ok c):(zWk c C x).ok c:=⟨zSx hx h.k,h.wf⟩
instance : Inhabited KP:=⟨⟨0,0,0,0,0,.slice none 0 0,.slice none 0 0,.slice none 0 0,0,0⟩⟩
theorem zcN {c:zAO} {K:KS} {x:Int} (hx:R64 x) (h:K.ok c):R64 (kTm c K x):=by
 have h1:=(zSx hx h).s
 unfold zRw at h1
 unfold kTm
 split at h1
 · rename_i hq;rw [if_pos hq];exact h1
 · rename_i hq;rw [if_neg hq];show R64 0;omega
theorem zXK {L:List RI} {l:List zAC} {j:Nat} {v:Value} (h:sns L = l.take j) (hj:j < l.length):sns (L ++ [(⟨(sat l (j:Int)).t,(sat l (j:Int)).tm,(sat l (j:Int)).l,v⟩ : RI)]) = l.take (j + 1):=by
 have hs:sat l (j:Int) = l[j]:=by
   unfold sat
   rw [if_pos (by omega),Int.toNat_natCast,List.getD_eq_getElem?_getD,List.getElem?_eq_getElem hj];rfl
 have h2:sns (L ++ [(⟨(sat l (j:Int)).t,(sat l (j:Int)).tm,(sat l (j:Int)).l,v⟩ : RI)]) = sns L ++ [sat l (j:Int)]:=by unfold sns;rw [List.map_append];rfl
 rw [h2,h,hs,List.take_succ_eq_append_getElem hj]
theorem zVC {L:List RI} {j:Nat} (h:j < L.length):iV ((L.take j).map RI.t) ++ [.int .i64 (L.getD j default).t] = iV ((L.take (j + 1)).map RI.t):=by
 rw [zJd,List.take_succ_eq_append_getElem h,List.map_append,List.getD_eq_getElem?_getD,List.getElem?_eq_getElem h];rfl
theorem zVT {L:List RI} {l:List zAC} (h:sns L = l):L.map RI.t = l.map zAC.t:=by subst h;unfold sns;rw [List.map_map];rfl
theorem zLG {c:zAO} (hk:zCT c = 0):((c.keep:Nat):Int) = c.ring ∧ 1 ≤ c.keep ∧ c.keep ≤ 64:=by
 obtain ⟨⟨h1,h2,_,_⟩,_⟩:=zFp hk
 unfold zAO.keep
 omega
theorem Mem.resep {w w':World} {S:List Nat} {A B:List HA} (h:Mem w S (A ++ B) w'):Mem w S (A ++ [zF9 B]) w':=by
 obtain ⟨h1,h2,h3⟩:=Mem.parts h
 refine ⟨h.chg,fun y hy=>?_,h3,by rw [zD5];exact h.ge⟩
 rcases List.mem_append.1 hy with e | e
 · exact h1 y e
 · rw [List.mem_singleton] at e;rw [e];exact h2
theorem Mem.wide {w w':World} {S:List Nat} {N:List HA} (h:Mem w [] N w'):Mem w S N w':=⟨⟨h.chg.os,h.chg.tape,h.chg.output,h.chg.size,fun k hk _=>h.chg.block k hk (by simp)⟩,h.all,h.nd,fun k hk=>(h.ge k hk).elim (fun h=>by cases h) .inr⟩
theorem za3 {e:Nat} {L:List RI} {w:World} {most:Nat} (h:(rws e L).p w) (ho:Oks (sns L) most) (hw:Wfs (sns L)):∀ x ∈ L,x.ok w:=by
 intro x hx
 have hm:x.sn ∈ sns L:=List.mem_map.2 ⟨x,hx,rfl⟩
 obtain ⟨h1,h2,h3,h4,h5⟩:=ho.rng x.sn hm
 exact ⟨⟨by have:(0:Int) ≤ x.t:=h1;omega,by have:x.t ≤ 4294967295:=h2;omega⟩,⟨h3,h4⟩,zET h (.inl hx),hw x.sn hm⟩
end Go.Sx
/- The client's example: plain mathematics. -/
set_option linter.unusedVariables false
namespace Go.Sx
section
open Go.RowKit
variable {P : Program} {ops : Array Oper} {Q : Exit → Act → World → Prop} {rest : List Oper} {n : Nat} {F : List (Nat × Value)} {w0 : World} {S : List Nat} {M : List HA} {a : Act} {w : World} {d : Nat} {ty : TypeId} {pos : String} {af : Array Edge}
end
theorem zOd (c:zAO) (C:CS) (x:Int) (G:zBx) (i:Nat):(zIw c C x G).σ.n i ≤ C.σ.n i + 1:=by
 show (zBp _ _ _).n i ≤ _
 unfold zBp
 split <;> (show zBG _ _ i ≤ _;unfold zBG;split <;> omega)
end Go.Sx
/- Rows' arguments: configs, events. -/
set_option linter.unusedVariables false
set_option linter.unusedSimpArgs false
namespace Go.Sx
open Go.RowKit Go.ChangeShapes Go.WideShapes
variable {W : World}
theorem zcm {c:List Value} (h:AllK W c [.i .u8]):∃ b:zP,c = [zMF b]:=by
 obtain ⟨u,us,rfl,h1,h2⟩:=h.split
 rw [h2.none]
 cases h1 with
 | i w =>
   obtain ⟨X,hX⟩:=zId w
   exact ⟨X,by rw [hX];rfl⟩
theorem zSB {α:Type} (f:α → Value):∀ (l:List α),(l.flatMap fun x=>[f x]) = l.map f
 | []=>rfl
 | a :: l=>by simp [zSB f l]
def zc0 (c:zAO):List Value:=[.int .i64 c.ring,.int .i64 c.window,.int .i64 c.base,.int .i64 c.gain,.int .i64 c.least,.int .i64 c.most,.int .i64 c.slack,.int .i64 c.num,.int .i64 c.den,.int .i64 c.extra,.bool c.curve]
theorem OneK.boo {v:Value} (h:OneK W v .b):∃ b:Bool,v = .bool b:=by cases h;exact ⟨_,rfl⟩
theorem zbS {cs:List Value} (h:AllK W cs [.i .i64,.i .i64,.i .i64,.i .i64,.i .i64,.i .i64,.i .i64,.i .i64,.i .i64,.i .i64,.b]):∃ c:zAO,cs = zc0 c:=by
 obtain ⟨_,_,rfl,h1,h⟩:=h.split
 obtain ⟨_,_,rfl,h2,h⟩:=h.split
 obtain ⟨_,_,rfl,h3,h⟩:=h.split
 obtain ⟨_,_,rfl,h4,h⟩:=h.split
 obtain ⟨_,_,rfl,h5,h⟩:=h.split
 obtain ⟨_,_,rfl,h6,h⟩:=h.split
 obtain ⟨_,_,rfl,h7,h⟩:=h.split
 obtain ⟨_,_,rfl,h8,h⟩:=h.split
 obtain ⟨_,_,rfl,h9,h⟩:=h.split
 obtain ⟨_,_,rfl,h10,h⟩:=h.split
 obtain ⟨_,_,rfl,h11,h⟩:=h.split
 obtain rfl:=h.none
 obtain ⟨z1,rfl,_⟩:=h1.i64
 obtain ⟨z2,rfl,_⟩:=h2.i64
 obtain ⟨z3,rfl,_⟩:=h3.i64
 obtain ⟨z4,rfl,_⟩:=h4.i64
 obtain ⟨z5,rfl,_⟩:=h5.i64
 obtain ⟨z6,rfl,_⟩:=h6.i64
 obtain ⟨z7,rfl,_⟩:=h7.i64
 obtain ⟨z8,rfl,_⟩:=h8.i64
 obtain ⟨z9,rfl,_⟩:=h9.i64
 obtain ⟨z10,rfl,_⟩:=h10.i64
 obtain ⟨b,rfl⟩:=h11.boo
 exact ⟨⟨z1,z2,z3,z4,z5,z6,z7,z8,z9,z10,b⟩,rfl⟩
structure EvR where
 k:Int
 at_:Int
 v:Value
 bs:List zP
instance : Inhabited EvR:=⟨⟨0,0,.slice none 0 0,[]⟩⟩
def evV (x:EvR):List Value:=[.int .i64 x.k,.int .i64 x.at_,x.v]
theorem zG7 (x:EvR):(evV x).length = 3:=rfl
structure EvR.ok (W:World) (x:EvR):Prop where
 k:R64 x.k
 at_:R64 x.at_
 rd:Rd W [] x.v 1 x.bs.length (zC x.bs)
theorem zcL {c:List Value} (h:AllK W c [.i .i64,.i .i64,.s 1 [.i .u8]]):∃ x:EvR,c = evV x ∧ x.ok W:=by
 obtain ⟨_,_,rfl,h1,h⟩:=h.split
 obtain ⟨_,_,rfl,h2,h⟩:=h.split
 obtain ⟨_,_,rfl,h3,h⟩:=h.split
 obtain rfl:=h.none
 obtain ⟨z1,rfl,w1⟩:=h1.i64
 obtain ⟨z2,rfl,w2⟩:=h2.i64
 obtain ⟨len,f,hf,hr⟩:=h3.sl
 obtain ⟨bs,hl,he⟩:=zQc (g:=fun b:zP=>[zMF b]) len fun i hi=>zcm (hf i hi)
 rw [he,zSB] at hr
 rw [← hl] at hr
 exact ⟨⟨z1,z2,_,bs⟩,rfl,⟨w1,w2,hr⟩⟩
theorem zVE {H : Type} {enc : TypeId × Value → H} {P : Program} {t e : TypeId} {a : Option Addr} {len cap m : Nat} {dd : DataW H} {p : List MemPlace} (hu : P.underlying t = some (.slice e)) (hk : zGV P m t = some [.s 3 [.i .i64, .i .i64, .s 1 [.i .u8]]]) (h : DataW.Trod enc P W 0 (fun _ => true) true t (.slice a len cap) dd p) :
   ∃ L:List EvR,Rd W [] (.slice a len cap) 3 L.length (L.flatMap evV) ∧ ∀ x ∈ L,x.ok W:=by
 obtain ⟨f,hf,hr⟩:=zMx hu hk h
 obtain ⟨l,hl,he,hp⟩:=zNx (g:=evV) (p:=fun x:EvR=>x.ok W) len fun i hi=>zcL (hf i hi)
 subst hl
 rw [he] at hr
 exact ⟨l,hr,hp⟩
end Go.Sx
/- A client's counts: plain mathematics. -/
set_option linter.unusedVariables false
namespace Go.Sx
theorem zUt (c:zAO) (C:CS) (x:Int) (G:zBx):(zIw c C x G).σ.n = zBG C.σ.n (zEN c C G):=by
 show (zBp _ _ _).n = zBG _ (zBF _ _ _ _ _)
 unfold zBp
 split
 · rename_i h;rw [h]
 · rfl
theorem zSh {n:Nat → Nat} {i:Nat} (h1:1 ≤ i) (h2:i ≤ 17):zFY n (i:Int) = n i:=by
 unfold zFY;rw [if_pos (by omega),Int.toNat_natCast]
theorem zMU {l:List EvR} {i:Nat} (h:i < l.length):l.getD i default ∈ l:=by
 rw [List.getD_eq_getElem?_getD,List.getElem?_eq_getElem h];exact List.getElem_mem h
end Go.Sx
/- The whole's example and what is more than is looked at: plain mathematics. -/
set_option linter.unusedVariables false
namespace Go.Sx
open Go.RowKit
def plC : zAO:=⟨8,4,0,0,0,0,0,1,1,5,false⟩
def zNs (t tm:Int) (l:List zS):List zP:=gwB (fG t tm l).t (fG t tm l).tm (fG t tm l).b (fG t tm l).l
theorem zIA (t tm:Int) (l:List zS):(zNs t tm l).length ≤ 1000000:=Nat.le_trans (zFA _ _ _ _) (by decide)
def zSe (L:List EvR):Nat → Int
 | 0=>0
 | j + 1=>IntKind.i64.wrap (zSe L j + ((L.getD j default).bs.length:Int))
def Grt (L:List EvR):Prop:=60 < L.length ∨ 12000 < zSe L L.length
instance (L:List EvR):Decidable (Grt L):=by unfold Grt;infer_instance
theorem zW0 (L:List EvR):∀ j,R64 (zSe L j)
 | 0=>by show R64 0;omega
 | j + 1=>zBs _
/-! ### The example -/
def tEn (x:Int):zS:=⟨1,x,0,0,65536,0,0,0#16,0#8⟩
theorem zNT {x:Int} (h:R64 x):∀ e ∈ [tEn x],e.wf:=by
 intro e he;rw [List.mem_singleton] at he;rw [he]
 exact ⟨(by show R64 1;omega),h,(by show R64 0;omega),(by show R64 0;omega),(by show R64 65536;omega),(by show R64 0;omega),(by show R64 0;omega)⟩
theorem zUN : zCT plC = 0:=by decide +kernel
theorem zcW : zMQ 1 0 [tEn 0] = 0:=by decide +kernel
theorem zcC : zMQ 2 10 [tEn 10] = 0:=by decide +kernel
def tP0 : zX:=zDp (tEn 0)
def tP1 : zX:=zDp (tEn 10)
theorem zaG : fG 1 0 [tEn 0] = ⟨1,0,-1,[tP0]⟩:=by rw [zaT zcW];kernel_rfl
theorem zaj : fG 2 10 [tEn 10] = ⟨2,10,-1,[tP1]⟩:=by rw [zaT zcC];kernel_rfl
theorem zSG : zA (zNs 1 0 [tEn 0]) = ⟨1,0,-1,[tP0],0⟩:=by
 have h:=zFe (zZr (bt:=1) (btm:=0) (zNT (x:=0) (by omega))) (t:=1) (tm:=0) (b:=-1) (by rw [zaG];decide +kernel)
 unfold zNs;rw [zaG] at h ⊢;exact h
theorem zTe : zA (zNs 2 10 [tEn 10]) = ⟨2,10,-1,[tP1],0⟩:=by
 have h:=zFe (zZr (bt:=2) (btm:=10) (zNT (x:=10) (by omega))) (t:=2) (tm:=10) (b:=-1) (by rw [zaj];decide +kernel)
 unfold zNs;rw [zaj] at h ⊢;exact h
def tS1 : CS:=zIw plC (C0 plC) 100 (zA (zNs 1 0 [tEn 0]))
def tS2 : CS:=zIw plC tS1 110 (zA (zNs 2 10 [tEn 10]))
def tS3 : CS:=zWk plC tS2 104
def tS4 : CS:=zWk plC tS3 113
theorem zc7 : zEN plC (C0 plC) (zA (zNs 1 0 [tEn 0])) = 0:=by rw [zSG];decide +kernel
theorem zc3 : zEN plC tS1 (zA (zNs 2 10 [tEn 10])) = 0:=by unfold tS1;rw [zSG,zTe];decide +kernel
theorem zc9 : zCV plC tS2 104 = ⟨true,4,[⟨1,4,0,0,0#16,1⟩]⟩:=by unfold tS2 tS1;rw [zSG,zTe];kernel_rfl
theorem zc5 : zCV plC tS3 113 = ⟨true,13,[⟨1,13,0,0,0#16,3⟩]⟩:=by unfold tS3 tS2 tS1;rw [zSG,zTe];kernel_rfl
theorem zc8 : zCV plC tS4 900 = ⟨true,800,[⟨1,15,0,0,0#16,4⟩]⟩:=by unfold tS4 tS3 tS2 tS1;rw [zSG,zTe];kernel_rfl
theorem zWW : (C0 plC).ok plC:=zat zUN
theorem zWM : tS1.ok plC:=zMo zUN zWW
theorem zWg : tS2.ok plC:=zMo zUN zWM
theorem zW7 : tS3.ok plC:=zNK (by decide) zWg
theorem zbI : tS4.ok plC:=zNK (by decide) zW7
theorem zcU : ∀ i,(C0 plC).σ.n i ≤ 1000000:=fun i=>Nat.zero_le _
theorem zcB : ∀ i,tS1.σ.n i ≤ 1000000:=fun i=>Nat.le_trans (zOd _ (C0 plC) _ _ i) (by decide:0 + 1 ≤ 1000000)
theorem zY2 : ∀ i,tS2.σ.n i ≤ 1000000:=fun i=>Nat.le_trans (zOd _ tS1 _ _ i) (Nat.le_trans (Nat.succ_le_succ (zOd _ (C0 plC) _ _ i)) (by decide:0 + 1 + 1 ≤ 1000000))
theorem zRy : (C0 plC).fr ≤ 1000000:=by decide
theorem za1 : tS3.fr ≤ 1000000:=(by decide:1 ≤ 1000000)
theorem zbP : tS4.fr ≤ 1000000:=(by decide:2 ≤ 1000000)
end Go.Sx
/- Maps of functions; what an event does to a client. -/
set_option linter.unusedVariables false
set_option linter.unusedSimpArgs false
namespace Go.Sx
open Go.RowKit
section
variable {P : Program} {ops : Array Oper} {Q : Exit → Act → World → Prop} {rest : List Oper} {n : Nat} {F : List (Nat × Value)} {w0 : World} {S : List Nat} {M : List HA} {a : Act} {w : World} {d : Nat} {ty : TypeId} {pos : String} {af : Array Edge}
theorem zJf {t kt e : TypeId} {m x y : Operand} {g : Nat} {k : Int} {u : Value} {kv kv' : List (Int × Value)} {M' : List HA} (hs : St n F w0 S M a w) (hm : evo F m = some (.map (some g))) (hx : evo F x = some (.int .i64 k)) (hy : evo F y = some u) (hb : Del M (mpr g kv) M')
   (ht:P.underlying t = some (.map kt e)) (hkt:P.underlying kt = some (.int .i64)) (he:zNe k u kv = kv')
   (c:∀ a w,St n F w0 S (mpr g kv' :: M') a w → wpList P ops Q rest a w):wpList P ops Q (⟨none,.insert t m x y,ty,pos,af,none⟩ :: rest) a w:=by
 subst he
 obtain ⟨w',hr,hw⟩:=zRG (hs.mem.del hb) ht hkt (k:=k) (u:=u)
 exact zIY rfl rfl (by simp [execOp,hs.ev hm,hs.ev hx,hs.ev hy,hr]) (c _ _ (hs.frame (.c hb .n) hw))
theorem zKk {t kt e : TypeId} {m x : Operand} {g : Nat} {k : Int} {kv : List (Int × Value)} {z v : Value} {b : Bool} {M' : List HA} (hs : St n F w0 S M a w) (hm : evo F m = some (.map (some g))) (hx : evo F x = some (.int .i64 k)) (hb : Del M (mpr g kv) M')
   (ht:P.underlying t = some (.map kt e)) (hkt:P.underlying kt = some (.int .i64)) (hz:∀ w,(zeroValue e).run P w = .ok z w) (hv:(zHj k kv).getD z = v) (hq:(zHj k kv).isSome = b) (hd:Nat.blt d n = true)
   (c:∀ a w,St n ((d,.tuple #[v,.bool b]) :: F) w0 S M a w → wpList P ops Q rest a w):wpList P ops Q (⟨some d,.lookup t m x true,ty,pos,af,none⟩ :: rest) a w:=by
 subst hv hq
 exact zR7 hs hm hx hb ht hkt hz hd c
end
theorem zOe {k:Int} {a b:Value} (h0:k ≠ 0) (h1:k ≠ 1):zHj k [(0,a),(1,b)] = none:=by
 simp only [zHj]
 rw [if_neg (fun h=>h0 h.symm),if_neg (fun h=>h1 h.symm)]
def cDo (c:zAO) (C:CS) (e:EvR):CS:=if e.k = 0 then zIw c C e.at_ (zA e.bs) else if e.k = 1 then zWk c C e.at_ else C
def zYK (c:zAO) (C:CS) (e:EvR):ShR:=if e.k = 1 then zCV c C e.at_ else ⟨false,0,[]⟩
def zb5 (c:zAO) (C:CS) (e:EvR):Nat:=if e.k = 0 then zEN c C (zA e.bs) else if e.k = 1 then 0 else 11
theorem zaK {c:zAO} {C:CS} {e:EvR} (hk:zCT c = 0) (he:R64 e.at_) (h:C.ok c):(cDo c C e).ok c:=by
 unfold cDo
 split
 · exact zMo hk h
 · split
   · exact zNK he h
   · exact h
theorem zcR (c:zAO) (C:CS) (e:EvR) (i:Nat):(cDo c C e).σ.n i ≤ C.σ.n i + 1:=by
 unfold cDo
 split
 · exact zOd _ _ _ _ i
 · split
   · exact Nat.le_succ _
   · exact Nat.le_succ _
theorem zbA (c:zAO) (C:CS) (e:EvR):(cDo c C e).fr = C.fr + (if e.k = 1 then 1 else 0):=by
 unfold cDo
 split
 · rename_i h;rw [if_neg (by omega)];rfl
 · split <;> rfl
theorem zUu (c:zAO) (C:CS) (e:EvR):(cDo c C e).fr ≤ C.fr + 1:=by rw [zbA];split <;> omega
end Go.Sx
