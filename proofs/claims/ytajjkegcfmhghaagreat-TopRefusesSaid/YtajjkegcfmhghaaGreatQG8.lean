import Derived.Test.YtajjkegcfmhghaaGreatQSxBasB
import Derived.ArgAppend
import Derived.Test.YtajjkegcfmhghaaGreatQG7
import Derived.Test.YtajjkegcfmhghaaGreatQSxStos
import Derived.Test.YtajjkegcfmhghaaGreatQSxGrams
import Derived.Test.YtajjkegcfmhghaaGreatQSxDel
import Derived.Test.YtajjkegcfmhghaaGreatQSxMap
set_option linter.unusedVariables false
set_option linter.unusedSimpArgs false
namespace Go.Sx
open Go.RowKit
variable {P : Program} {ops : Array Oper} {Q : Exit → Act → World → Prop} {rest : List Oper} {n : Nat} {F : List (Nat × Value)} {w0 : World} {S : List Nat} {M : List HA} {a : Act} {w : World}
variable {d : Nat} {ty : TypeId} {pos : String} {af : Array Edge}
def zNJ (v:Value) (e:TypeId) (xs:List Value) (w:World):Prop:=(v = .slice none 0 0∧xs=[]) ∨
 ∃ g o cap cur,v = .slice (some ⟨g,o,none⟩) xs.length cap∧w.heap[g]? = some (.cells cur e (0,0))∧xs.length≤cap∧cap≤maxLen∧o+cap≤cur.size∧(cur.toList.drop o).take xs.length=xs
def rwo (v:Value) (e:TypeId) (xs:List Value):HA where
 foot:=v.ownBlock.toList
 p w:=zNJ v e xs w
 loc w w' h hp:=by
  rcases hp with hn | ⟨g,o,cap,cur,rfl,hg,rest⟩
  ·exact .inl hn
  ·refine .inr ⟨g,o,cap,cur,rfl,?_,rest⟩
   rw [h g (by simp [Value.ownBlock])]
   exact hg
 lt w h k hk:=by
  rcases h with ⟨rfl,_⟩ | ⟨g,o,cap,cur,rfl,hg,_⟩
  ·simp [Value.ownBlock] at hk
  ·have:k=g:=by simpa [Value.ownBlock] using hk
   subst this
   exact (Array.getElem?_eq_some_iff.1 hg).1
theorem zG8 (g o j:Nat):(⟨g,o,none⟩ : Addr).add j=⟨g,o+j,none⟩:=by unfold Addr.add;split<;>simp_all
theorem zOo {w:World} {g o:Nat} {cur:Array Value} {e:TypeId} {fr:Nat×Nat} (hg:w.heap[g]? = some (.cells cur e fr)) (j:Nat):w.cell? ⟨g,j,none⟩=cur[j]?:=by
 simp [World.cell?,hg]
theorem zXz {v:Value} {e:TypeId} {xs:List Value} (h:zNJ v e xs w):Rd w [] v 1 xs.length xs:=by
 rcases h with ⟨rfl,rfl⟩ | ⟨g,o,cap,cur,rfl,hg,h1,h2,h3,h4⟩
 ·exact zTe w [] 1
 ·refine ⟨⟨_,cap,rfl,h1,h2⟩,by simp,λ_=>⟨_,cap,rfl,by simp,(Array.getElem?_eq_some_iff.1 hg).1,λj u hu=>?_⟩⟩
  rw [zG8,zOo (o:=o) hg]
  have hj:j<xs.length:=(List.getElem?_eq_some_iff.1 hu).1
  rw [← h4,List.getElem?_take,if_pos hj,List.getElem?_drop,Array.getElem?_toList] at hu
  exact hu
theorem zOm {v x:Value} {e:TypeId} {xs:List Value} (h:zNJ v e (x::xs) w):zNJ (zF2 v 1 1 (xs.length+1)) e xs w∧(zF2 v 1 1 (xs.length+1)).ownBlock=v.ownBlock:=by
 rcases h with ⟨_,h⟩ | ⟨g,o,cap,cur,rfl,hg,h1,h2,h3,h4⟩
 ·cases h
 ·simp only [List.length_cons] at h1 h4 ⊢
  by_cases hc:cap=1
  ·subst hc
   have h0:xs=[]:=List.eq_nil_of_length_eq_zero (by omega)
   subst h0
   refine ⟨.inr ⟨g,o,0,cur,by simp [zF2],hg,by simp,by simp [maxLen],by omega,by simp⟩,by simp [zF2,Value.ownBlock]⟩
  ·refine ⟨.inr ⟨g,o+1,cap-1,cur,by simp [zF2,hc,zG8],hg,by omega,by omega,by omega,?_⟩,by simp [zF2,hc,Value.ownBlock,zG8]⟩
   have h5:=congrArg (List.drop 1) h4
   rw [List.drop_take,List.drop_drop] at h5
   simpa using h5
theorem zOu {v x:Value} {e:TypeId} {xs:List Value} (h:zNJ v e (xs++[x]) w):zNJ (zF2 v 1 0 xs.length) e xs w∧(zF2 v 1 0 xs.length).ownBlock=v.ownBlock:=by
 rcases h with ⟨_,h⟩ | ⟨g,o,cap,cur,rfl,hg,h1,h2,h3,h4⟩
 ·simp at h
 ·simp only [List.length_append,List.length_singleton] at h1 h4
  refine ⟨.inr ⟨g,o,cap,cur,by simp [zF2,show ¬ cap=0 by omega,zG8],hg,by omega,h2,h3,?_⟩,by simp [zF2,show ¬ cap=0 by omega,Value.ownBlock,zG8]⟩
  have h5:=congrArg (List.take xs.length) h4
  rw [List.take_take,Nat.min_eq_left (by omega)] at h5
  simpa using h5
theorem zIY {v v':Value} {e:TypeId} {xs xs':List Value} (h:zNJ v' e xs' w) (hb:v'.ownBlock=v.ownBlock):Mem w (zO [rwo v e xs]) [rwo v' e xs'] w:=by
 refine ⟨Chg.refl _ _,?_,by cases hv:v'.ownBlock<;>simp [zO,rwo,hv],λk hk=>.inl (by simpa [zO,rwo,hb] using hk)⟩
 intro y hy
 simp only [List.mem_singleton] at hy
 subst hy
 exact h
theorem St.rwoInit {v x:Value} {e:TypeId} {xs:List Value} {M':List HA} (hs:St n F w0 S M a w) (hb:Del M (rwo v e (xs++[x])) M'):St n F w0 S (rwo (zF2 v 1 0 xs.length) e xs::M') a w :=
 hs.frame (.c hb .n) (zIY (zOu (hs.mem.del hb)).1 (zOu (hs.mem.del hb)).2)
theorem zTI {v:Value} {e:TypeId} {b:Nat} {xs:List Value} (h:w.ownsRow b e 1 v xs.length xs):zNJ v e xs w:=by
 rcases h.2 with ⟨rfl,h0⟩ | ⟨g,cap,cur,rfl,_,hg,h1,h2,h3,h4⟩
 · exact .inl ⟨rfl,List.eq_nil_of_length_eq_zero h0⟩
 · exact .inr ⟨g,0,cap,cur,rfl,hg,h1,h2,by omega,by simpa using h4⟩
theorem zUZ {L xs:List Value} {u:Value} (h:L.take xs.length=xs) (hl:xs.length<L.length):(L.set xs.length u).take (xs.length+1)=xs++[u]:=by
 conv=>rhs;rw [← h]
 generalize xs.length=n at *
 rw [List.take_add_one,List.getElem?_set_self hl,List.take_set_of_le (Nat.le_refl _)]
 rfl
theorem zVJ {t ty e : TypeId} {i : TypeInfo} {z u : Value} {bytes : Nat} (ht : P.underlying t = some (.slice e)) (hi : P.info? e = some i) (hz : i.zero = some z) (hsize : i.size = 1) (hby : i.bytes = bytes) (hzs : z.cells.size = 1)
   {v:Value} {xs:List Value} (h:zNJ v e xs w) {ad:Addr} {c:Nat} (hnews:∀ j x,[u][j]? = some x→w.cell? (ad.add j)=some x) (h1:u.oneCell'=true)
   (h63:xs.length+1≤maxLen) (hbytes:(xs.length+1)*bytes≤140737488355328) :
   ∃ v' w',(Builtin.append_ #[t,t] ty #[v,.slice (some ad) 1 c]).run P w = .ok v' w'∧zNJ v' e (xs++[u]) w'∧w.grownBy w' v.ownBlock∧(v'.ownBlock=v.ownBlock∨∃ b,v'.ownBlock=some b∧w.heap.size≤b):=by
 have h1':∀ x∈[u],x.oneCell'=true:=by intro x hx;rw [List.mem_singleton] at hx;rw [hx];exact h1
 have hl:(xs++[u]).length=xs.length+1:=by simp
 rcases h with ⟨rfl,rfl⟩ | ⟨g,o,cap,cur,rfl,hg,a1,a2,a3,a4⟩
 · obtain ⟨v',w',hr,h2,h3,_,h5⟩:=run_append_own_at (P:=P) w 0 t ty e i z 1 bytes ht hi hz hsize hby hzs (by decide) _ 0 [] (World.ownsRow_nil w 0 e 1) ad 1 c [u] rfl hnews h1' h63 hbytes (Nat.zero_le _)
   exact ⟨v',w',hr,zTI (by simpa using h2),h3,h5.imp id λh=>⟨_,h,Nat.le_refl _⟩⟩
 · by_cases hroom:xs.length+1≤cap
   · have hr := run_append_room_cells (P := P) w t ty e i ht hi g o xs.length cap ad 1 c [u] (by simp [hsize]) hnews h1' hroom
       (λj hj=>by
         have:j=0:=by simpa using hj
         subst this
         rw [zOo (o:=o) hg,hsize,Nat.mul_one,Nat.add_zero,Array.getElem?_eq_getElem (by omega)];rfl)
       (λj hj=>by simp [World.frozen?,hg])
     rw [hsize,Nat.mul_one] at hr
     refine ⟨_,_,hr,.inr ⟨g,o,cap,cur.setIfInBounds (o+xs.length) u,by rw [hl],?_,by omega,a2,by simpa using a3,?_⟩,⟨rfl,rfl,rfl,by simp [World.setCells,World.setCell],λk hk hS=>?_⟩,.inl rfl⟩
     · simp [World.setCells,World.setCell,Array.getElem?_modify,hg]
     · rw [hl,Array.toList_setIfInBounds,List.drop_set,if_neg (by omega),show o+xs.length-o=xs.length by omega]
       exact zUZ a4 (by simp;omega)
     · have:¬ g=k:=λe=>hS (by simp [Value.ownBlock,e])
       simp [World.setCells,World.setCell,Array.getElem?_modify,this]
   · obtain ⟨v', w', hr, h2, h3⟩ := run_append_arg_grows (P := P) w t ty e i z 1 bytes ht hi hz hsize hby hzs (by decide) ⟨g, o, none⟩ xs.length cap xs (by simp)
       (λj x hx=>(zXz (.inr ⟨g,o,cap,cur,rfl,hg,a1,a2,a3,a4⟩)).at_ (by have:=(List.getElem?_eq_some_iff.1 hx).1;omega) |> λ⟨ad',c',e',_,_,hcell⟩=>by injection e' with e1 _ _;injection e1 with e1;subst e1;exact hcell j x hx)
       ad 1 c [u] rfl hnews (by omega) h63 hbytes
     have hv:∃ b,v'.ownBlock=some b∧w.heap.size≤b:=by
       rcases h2.2 with ⟨_,h0⟩ | ⟨g',cap',cur',rfl,hb,hg',_⟩
       · omega
       · exact ⟨g',rfl,hb⟩
     exact ⟨v',w',hr,zTI (by simpa using h2),⟨h3.os,h3.tape,h3.output,h3.size,λk hk _=>h3.block k hk (by simp)⟩,.inr hv⟩
theorem zW1 {w':World} {v v':Value} {e:TypeId} {xs xs':List Value} (hg:w.grownBy w' v.ownBlock) (ho:zNJ v' e xs' w') (hat:v'.ownBlock=v.ownBlock∨∃ b,v'.ownBlock=some b∧w.heap.size≤b):Mem w (zO [rwo v e xs]) [rwo v' e xs'] w':=by
 refine ⟨⟨hg.os,hg.tape,hg.output,hg.size,λk hk hS=>hg.block k hk (λe=>hS (by simp [zO,rwo,← e]))⟩,?_,by cases hv:v'.ownBlock<;>simp [zO,rwo,hv],λk hk=>?_⟩
 ·intro y hy
  simp only [List.mem_singleton] at hy
  subst hy
  exact ho
 ·simp only [zO,rwo,List.flatMap_cons,List.flatMap_nil,List.append_nil,Option.mem_toList] at hk ⊢
  rcases hat with h | ⟨b,h,hb⟩
  ·left;rw [← h];exact hk
  ·right
   have h2:some k=some b:=hk.symm.trans h
   injection h2 with h2
   omega
theorem zKl {x y : Operand} {v u uv z : Value} {t e : TypeId} {bytes : Nat} {xs : List Value} {T : List Nat} {M' : List HA} {i : TypeInfo}
   (hs:St n F w0 S M a w) (hx:evo F x=some v) (hy:evo F y=some uv) (hb:Del M (rwo v e xs) M') (hr:Rd w T uv 1 1 [u]) (h1:u.oneCell'=true)
   (ht:P.underlying t=some (.slice e)) (hi:P.info? e=some i) (hz:i.zero=some z) (hsize:i.size=1) (hby:i.bytes=bytes) (hzs:z.cells.size=1)
   (hbytes:(xs.length+1)*bytes≤140737488355328) (h63:xs.length+1≤maxLen) (hd:Nat.blt d n=true)
   (k:∀ v' a w,St n ((d,v')::F) w0 S (rwo v' e (xs++[u])::M') a w→wpList P ops Q rest a w) :
   wpList P ops Q (⟨some d,.call { callee:=.builtin .append,args:=#[x,y],argTypes:=#[t,t] },ty,pos,af,none⟩::rest) a w:=by
 obtain ⟨ad,c,rfl,_,_,hcell⟩:=hr.at_ (by decide)
 obtain ⟨v',w',hrun,h2,h3,h5⟩:=zVJ (P:=P) (w:=w) (ty:=ty) (c:=c) ht hi hz hsize hby hzs (hs.mem.del hb) hcell h1 h63 hbytes
 refine zDc rfl rfl (v:=v') (w':=w') ?_ (k v' _ _ ((hs.frame (.c hb .n) (zW1 h3 h2 h5)).put hd v'))
 simp [execOp,resolve,invoke,builtin,hs.ev hx,hs.ev hy,hrun]
theorem St.rerwo {v:Value} {e:TypeId} {xs xs':List Value} {M':List HA} (hs:St n F w0 S M a w) (hb:Del M (rwo v e xs) M') (hx:xs=xs'):St n F w0 S (rwo v e xs'::M') a w :=
 hs.frame (.c hb .n) (zIY (by rw [← hx];exact hs.mem.del hb) rfl)
def iV (l:List Int):List Value:=l.map (Value.int .i64)
theorem zEp (l:List Int):(iV l).length=l.length:=by simp [iV]
theorem zMI (l:List Int) (j:Nat) (h:j<l.length):(iV l)[j]? = some (.int .i64 (l.getD j 0)):=by
 simp [iV,List.getD_eq_getElem?_getD,List.getElem?_eq_getElem h]
theorem zJz (l:List Int) (x:Int):iV l++[.int .i64 x]=iV (l++[x]):=by simp [iV]
theorem zRG {l:List Int} (h:((l.length:Nat):Int)=0):Value.tuple #[.int .i64 0,.bool false]=Value.tuple #[.int .i64 (l.getD 0 0),.bool (decide (0<l.length))]:=by
 rw [show l=[] from List.eq_nil_of_length_eq_zero (by omega)];rfl
theorem zQE {l:List Int} (h:¬ ((l.length:Nat):Int)=0):Value.tuple #[.int .i64 (l.getD 0 0),.bool true]=Value.tuple #[.int .i64 (l.getD 0 0),.bool (decide (0<l.length))]:=by
 rw [show decide (0<l.length)=true from decide_eq_true (by omega)]
def zDp (v:Value) (l:List Int) (x:Int):Value:=if l.getD 0 0=x then zF2 v 1 1 l.length else v
def zK9 (l:List Int) (x:Int):List Int:=if l.getD 0 0=x then l.drop 1 else l
theorem zVo {v:Value} {l:List Int} {x:Int} (h:l.getD 0 0=x):zF2 v 1 1 l.length=zDp v l x:=(if_pos h).symm
theorem zUg {v:Value} {l:List Int} {x:Int} (h:¬ l.getD 0 0=x):v=zDp v l x:=(if_neg h).symm
theorem zO5 {v:Value} {e:TypeId} {l:List Int} (x:Int) (hl:0<l.length) (h:zNJ v e (iV l) w):zNJ (zDp v l x) e (iV (zK9 l x)) w∧(zDp v l x).ownBlock=v.ownBlock:=by
 unfold zDp zK9
 by_cases hx:l.getD 0 0=x
 ·rw [if_pos hx,if_pos hx]
  cases l with
  | nil=>cases hl
  | cons y t =>
   have:=zOm (v:=v) (x:=.int .i64 y) (xs:=iV t) (e:=e) (by simpa [iV] using h)
   rw [zEp] at this
   exact this
 ·rw [if_neg hx,if_neg hx]
  exact ⟨h,rfl⟩
theorem St.rwoDrop {v:Value} {e:TypeId} {l:List Int} {M':List HA} (hs:St n F w0 S M a w) (hb:Del M (rwo v e (iV l)) M') (x:Int) (hl:0<l.length):St n F w0 S (rwo (zDp v l x) e (iV (zK9 l x))::M') a w :=
 hs.frame (.c hb .n) (zIY (zO5 x hl (hs.mem.del hb)).1 (zO5 x hl (hs.mem.del hb)).2)
def zKs (f:Int→Int→Bool) (l:List Int) (x:Int):Nat→Nat
 | 0=>0
 | k+1=>if f (l.getD k 0) x then zKs f l x k else k+1
def zEI (f:Int→Int→Bool) (l:List Int) (x:Int):List Int:=l.take (zKs f l x l.length)++[x]
theorem zRU {f:Int→Int→Bool} {l:List Int} {x:Int} {k m:Nat} (h:zKs f l x k=m) (h0:0<k) (hf:f (l.getD (k-1) 0) x=true):zKs f l x (k-1)=m:=by
 obtain ⟨j,rfl⟩ : ∃ j,k=j+1:=⟨k-1,by omega⟩
 rw [zKs,show j+1-1=j from rfl] at *
 rw [if_pos hf] at h
 exact h
theorem zKH {f:Int→Int→Bool} {l:List Int} {x:Int} {k m:Nat} (h:zKs f l x k=m) (hf:k=0∨f (l.getD (k-1) 0) x=false):k=m:=by
 rcases Nat.eq_zero_or_pos k with h0 | h0
 ·subst h0;exact h
 ·obtain ⟨j,rfl⟩ : ∃ j,k=j+1:=⟨k-1,by omega⟩
  rcases hf with hf | hf
  ·omega
  ·rw [show j+1-1=j from rfl] at hf
   rw [zKs,if_neg (by rw [hf];decide)] at h
   exact h
theorem St.rwoPop {v:Value} {e:TypeId} {l:List Int} {k:Nat} {M':List HA} (hs:St n F w0 S M a w) (hb:Del M (rwo v e (iV (l.take k))) M') (h0:0<k) (hk:k≤l.length):St n F w0 S (rwo (zF2 v 1 0 (k-1)) e (iV (l.take (k-1)))::M') a w:=by
 have e1:iV (l.take k)=iV (l.take (k-1))++[.int .i64 (l.getD (k-1) 0)]:=by
  rw [zJz]
  congr 1
  rw [List.getD_eq_getElem?_getD,List.getElem?_eq_getElem (by omega)]
  conv=>lhs;rw [show k=(k-1)+1 by omega]
  rw [List.take_add_one,List.getElem?_eq_getElem (by omega)]
  rfl
 rw [e1] at hb
 have h2:=hs.rwoInit hb
 rw [zEp,List.length_take,Nat.min_eq_left (by omega)] at h2
 exact h2
theorem zAx {v:Value} {e:TypeId} {l:List Int} {m:Nat} (h:zNJ v e (iV l) w) (hn:l.length=m):Rd w [] v 1 m (iV l):=by
 have:=zXz h
 rw [zEp,hn] at this
 exact this
theorem zZZ (l:List Int) (k j:Nat) (hj:j<k) (hk:k≤l.length):(iV (l.take k))[j]? = some (.int .i64 (l.getD j 0)):=by
 rw [zMI _ j (by rw [List.length_take];omega)]
 simp only [List.getD_eq_getElem?_getD,List.getElem?_take,if_pos hj]
theorem zYI {v:Value} {e:TypeId} {xs:List Value} (h:(rwo v e xs).p w):Mem w (zO [rwo v e xs]) [rwo v e xs] w:=zIY h rfl
def zUq (c:Int) (l:List Int) (x:Int):List Int:=(if ((l.length:Nat):Int)=c then l.drop 1 else l)++[x]
def wD (c:Int) (l q:List Int):List Int:=if ((l.length:Nat):Int)=c then zK9 q (l.getD 0 0) else q
theorem zL9 (q:List Int) (x:Int):(zK9 q x).length≤q.length:=by unfold zK9;split<;>simp
theorem zM9 {v:Value} {m:Nat} (l:List Int) (x:Int) (h:zD3 v m):∃ k,zD3 (zDp v l x) k:=by
 obtain ⟨A,c,rfl⟩:=h
 unfold zDp
 split
 · exact ⟨_,_,_,rfl⟩
 · exact ⟨_,_,_,rfl⟩
theorem zXn {v:Value} {e:TypeId} {l:List Int} (hl:0<l.length) (h:zNJ v e (iV l) w):zNJ (zF2 v 1 1 l.length) e (iV (l.drop 1)) w∧(zF2 v 1 1 l.length).ownBlock=v.ownBlock:=by
 cases l with
 | nil=>cases hl
 | cons y t =>
  have:=zOm (v:=v) (x:=.int .i64 y) (xs:=iV t) (e:=e) (by simpa [iV] using h)
  rw [zEp] at this
  exact this
theorem St.rwoTl {v:Value} {e:TypeId} {l:List Int} {M':List HA} (hs:St n F w0 S M a w) (hb:Del M (rwo v e (iV l)) M') (hl:0<l.length):St n F w0 S (rwo (zF2 v 1 1 l.length) e (iV (l.drop 1))::M') a w :=
 hs.frame (.c hb .n) (zIY (zXn hl (hs.mem.del hb)).1 (zXn hl (hs.mem.del hb)).2)
structure KS where
 l1:List Int
 l2:List Int
 l3:List Int
 s:Int
 t:Int
 b:Int
 j:Int
 now:Int
abbrev gtI : Int→Int→Bool:=λp q=>decide (q<p)
abbrev ltI : Int→Int→Bool:=λp q=>decide (p<q)
def KS.off (K:KS):Int:=K.l2.getD 0 0
def zXw (c:zAG) (K:KS) (x y:Int):KS :=
 let d:=zBZ x y
 let m2:=zEI gtI (wD c.window K.l1 K.l2) d
 let j:=zEs K.j (zBZ d (m2.getD 0 0))
 ⟨zUq c.window K.l1 d,m2,zEI ltI (wD c.window K.l1 K.l3) d,K.s,K.t,K.b,j,zUQ c K.now j⟩
def zT0 (K:KS) (x:Int):Int:=zBZ (zBZ x (K.l2.getD 0 0)) K.now
def zJl (c:zAG) (K:KS) (x:Int):KS:=if 0<K.l2.length then { K with s:=sS c.num c.den K.s K.t K.b x (zT0 K x),t:=sT K.t K.b x,b:=1 } else K
def kTm (c:zAG) (K:KS) (x:Int):Int:=if 0<K.l2.length then sS c.num c.den K.s K.t K.b x (zT0 K x) else 0
def K0 (c:zAG):KS:=⟨[],[],[],0,0,0,0,zJi c 0⟩
structure KS.ok (c:zAG) (K:KS):Prop where
 h1:((K.l1.length:Nat):Int)≤c.window
 s2:K.l2.Sublist K.l1
 s3:K.l3.Sublist K.l1
 h0:0<K.l1.length→0<K.l2.length∧0<K.l3.length
 r:∀ x∈K.l1,R64 x
 s:R64 K.s
 t:R64 K.t
 j:R64 K.j
 now:c.least≤K.now∧K.now≤c.most
theorem zcj {c:Int} {l q:List Int} (h:q.Sublist l):(wD c l q).Sublist (if ((l.length:Nat):Int)=c then l.drop 1 else l):=by
 unfold wD
 split
 ·unfold zK9
  cases l with
  | nil=>have:=List.sublist_nil.1 h;subst this;simp
  | cons y l =>
   cases q with
   | nil=>simp
   | cons z q =>
    show List.Sublist (if (z::q).getD 0 0=(y::l).getD 0 0 then (z::q).drop 1 else z::q) l
    by_cases hz:z=y
    ·rw [if_pos (by simpa using hz)]
     subst hz
     simpa using h
    ·rw [if_neg (by simpa using hz)]
     cases h with
     | cons _ h=>exact h
     | cons_cons _ h=>exact absurd rfl hz
 ·exact h
theorem zUO {f:Int→Int→Bool} {q l:List Int} {x:Int} (h:q.Sublist l):(zEI f q x).Sublist (l++[x]):=by
 unfold zEI
 exact List.Sublist.append ((List.take_sublist _ _).trans h) (List.Sublist.refl _)
theorem zM8 (f:Int→Int→Bool) (q:List Int) (x:Int):0<(zEI f q x).length:=by unfold zEI;simp
theorem zPC {c:Int} {l:List Int} {x y:Int} (h:y∈zUq c l x):y∈l∨y=x:=by
 unfold zUq at h
 rcases List.mem_append.1 h with h | h
 ·left
  split at h
  ·exact List.mem_of_mem_drop h
  ·exact h
 ·right;simpa using h
theorem zLY {l:List Int} (h:∀ x∈l,R64 x):R64 (l.getD 0 0):=by
 cases l with
 | nil=>show R64 0;omega
 | cons x l=>exact h x (by simp)
theorem KS.ok.r2 {c:zAG} {K:KS} (h:K.ok c):∀ x∈K.l2,R64 x:=λx hx=>h.r x (h.s2.subset hx)
theorem zNz {c:zAG} {K:KS} (h:K.ok c) (x:Int) (f:Int→Int→Bool) {q:List Int} (hq:q.Sublist K.l1):(zEI f (wD c.window K.l1 q) x).Sublist (zUq c.window K.l1 x):=zUO (zcj hq)
theorem zYk {c:zAG} {K:KS} (h:K.ok c) {d:Int} (hd:R64 d):R64 ((zEI gtI (wD c.window K.l1 K.l2) d).getD 0 0):=by
 refine zLY λy hy=>?_
 rcases zPC ((zNz h d gtI h.s2).subset hy) with h1 | h1
 · exact h.r y h1
 · rw [h1];exact hd
theorem zSx {x y:Int} (hx:R64 x) (hy:R64 y):R64 (zEs x y):=by
 have:=zSF hx.2 hy.2
 omega
theorem zYW {c:zAG} {K:KS} {x y:Int} (hk:zCm c=0) (h:K.ok c):(zXw c K x y).ok c:=by
 obtain ⟨⟨_,_,hw,_⟩,hd,_⟩:=zGH hk
 have hdr:R64 (zBZ x y):=zCG _ _
 refine ⟨?_,zNz h _ _ h.s2,zNz h _ _ h.s3,λ_=>⟨zM8 _ _ _,zM8 _ _ _⟩,λz hz=>?_,h.s,h.t,?_,?_⟩
 ·show (((zUq c.window K.l1 (zBZ x y)).length:Nat):Int)≤c.window
  unfold zUq
  have:=h.h1
  split
  ·simp only [List.length_append,List.length_drop,List.length_singleton];omega
  ·simp only [List.length_append,List.length_singleton];omega
 ·rcases zPC hz with h1 | h1
  ·exact h.r z h1
  ·rw [h1];exact hdr
 ·exact zSx h.j (zCG _ _)
 ·exact zWV hd h.now
theorem zdu {b x y:Int} (hx:R64 x) (hy:R64 y):R64 (sP b x y):=by unfold sP;split<;>assumption
theorem zSD {c:zAG} {K:KS} {x:Int} (hx:R64 x) (h:K.ok c):(zJl c K x).ok c:=by
 unfold zJl
 split
 ·have hw:R64 (zT0 K x):=zCG _ _
  have h1:=zdu (b:=K.b) hw h.s
  have h2:=zdu (b:=K.b) hx h.t
  refine ⟨h.h1,h.s2,h.s3,h.h0,h.r,?_,?_,h.j,h.now⟩
  ·show R64 (sS _ _ _ _ _ _ _)
   unfold sS sS1
   have:=zLN (sP K.b (zT0 K x) K.s) (zEZ (zBZ (max x (sP K.b x K.t)) (sP K.b x K.t)) c.num c.den)
   omega
  ·show R64 (sT _ _ _)
   unfold sT
   omega
 ·exact h
theorem zc5 {c:zAG} (hk:zCm c=0):(K0 c).ok c:=by
 obtain ⟨⟨_,_,hw,_⟩,hd,_⟩:=zGH hk
 exact ⟨by show (0:Int)≤_;omega,List.Sublist.refl _,List.Sublist.refl _,λh=>absurd h (Nat.lt_irrefl 0),λx hx=>(by cases hx),by show R64 0;omega,by show R64 0;omega,by show R64 0;omega,zKk hd⟩
theorem St.addO {n:Nat} {F:List (Nat×Value)} {w0 w:World} {S:List Nat} {M:List HA} {a:Act} (hs:St n F w0 S M a w) (e:TypeId):St n F w0 S (rwo (.slice none 0 0) e (iV [])::M) a w:=by
 refine hs.frame (N:=[rwo (.slice none 0 0) e (iV [])]) .n ⟨Chg.refl _ _,?_,by simp [zO,rwo,Value.ownBlock],by simp [zO,rwo,Value.ownBlock]⟩
 intro h hh
 simp only [List.mem_singleton] at hh
 subst hh
 exact .inl ⟨rfl,rfl⟩
structure KP where
 k:Nat
 wg:Nat
 sg:Nat
 jg:Nat
 dg:Nat
 v1:Value
 v2:Value
 v3:Value
 cn:Int
 ch:Int
def KP.on (p:KP) (k:Nat):KP:={ p with k:=k }
def Wfs (l:List zAH):Prop:=∀ s∈l,∀ e∈s.l,e.wf
theorem zOP {r:zW} (h:r.wf):(zE3 r).wf:=⟨h.id,h.p0,h.p1,h.p2,h.v0,h.v1,h.v2⟩
theorem zNY {a:zS} {r:zW} (ha:a.wf) (h:r.wf):(zU a r).1.wf:=by
 unfold zU
 split
 ·exact zNm
 ·split
  ·exact zNm
  ·split
   ·exact ⟨ha.id,h.p0,h.p1,h.p2,h.v0,h.v1,h.v2⟩
   ·exact ⟨ha.id,zBT _,zBT _,zBT _,zBT _,zBT _,zBT _⟩
theorem zKa {x:zS} {l:List zS} (hx:x.wf) (h:∀ e∈l,e.wf):∀ e∈x::l,e.wf:=by
 intro e he;rcases List.mem_cons.1 he with h1 | h1
 · rw [h1];exact hx
 · exact h e h1
theorem zbc : ∀ (n:Nat) (was:List zS) (l:List zW),was.length+l.length≤n→(∀ e∈was,e.wf)→(∀ r∈l,r.wf)→∀ out,apl was l=some out→∀ e∈out,e.wf:=by
 intro n
 induction n with
 | zero =>
  intro was l hn hw hl out h
  cases l with
  | nil=>rw [zEx] at h;cases h;exact hw
  | cons r l=>simp at hn
 | succ n ih =>
  intro was l hn hw hl out h
  cases l with
  | nil=>rw [zEx] at h;cases h;exact hw
  | cons r l =>
   have hr:=hl r (by simp)
   have hl2:∀ r∈l,r.wf:=λx hx=>hl x (by simp [hx])
   cases was with
   | nil =>
    unfold apl at h
    split at h
    ·rw [Option.map_eq_some_iff] at h
     obtain ⟨o,h1,rfl⟩:=h
     exact zKa (zOP hr) (ih [] l (by simp at hn ⊢;omega) hw hl2 o h1)
    ·cases h
   | cons x was =>
    have hx:=hw x (by simp)
    have hw2:∀ e∈was,e.wf:=λe he=>hw e (by simp [he])
    simp only [List.length_cons] at hn
    unfold apl at h
    split at h
    ·rw [Option.map_eq_some_iff] at h
     obtain ⟨o,h1,rfl⟩:=h
     exact zKa hx (ih was (r::l) (by simp only [List.length_cons];omega) hw2 hl o h1)
    ·split at h
     ·split at h
      ·cases h
      ·split at h
       ·exact ih was l (by omega) hw2 hl2 out h
       ·rw [Option.map_eq_some_iff] at h
        obtain ⟨o,h1,rfl⟩:=h
        exact zKa (zNY hx hr) (ih was l (by omega) hw2 hl2 o h1)
     ·split at h
      ·rw [Option.map_eq_some_iff] at h
       obtain ⟨o,h1,rfl⟩:=h
       exact zKa (zOP hr) (ih (x::was) l (by simp only [List.length_cons];omega) hw hl2 o h1)
      ·cases h
theorem zdE {at_ atm:Int} {a:List zS} {gt gtm gb:Int} {rl:List zW} (ha:∀ e∈a,e.wf) (hr:∀ r∈rl,r.wf):∀ e∈(aS at_ atm a gt gtm gb rl).l,e.wf:=by
 unfold aS
 split
 ·intro e he
  cases ho:apl (zFA gb a) rl with
  | none=>rw [ho] at he;simp at he
  | some o =>
   rw [ho] at he
   refine zbc _ _ _ (Nat.le_refl _) (λe he=>?_) hr o ho e he
   unfold zFA at he
   split at he
   ·exact ha e he
   ·cases he
 ·intro e he;cases he
theorem zZS {l:List zAH} (h:Wfs l) (k:Int):∀ e∈(zFW l k).l,e.wf:=by
 unfold zFW
 split
 ·rename_i hk
  rw [List.getD_eq_getElem?_getD]
  cases ho:l[zAZ l k]? with
  | none=>intro e he;cases he
  | some s=>exact h s (List.mem_of_getElem? ho)
 ·intro e he;cases he
theorem zWj {l:List zAH} {most:Nat} {x:zAH} (h:Wfs l) (hx:∀ e∈x.l,e.wf):Wfs (zGi l most x):=by
 have hk:Wfs (zBw l (zAZ l x.t) x):=by
  intro s hs
  unfold zBw at hs
  rcases List.mem_append.1 hs with h1 | h1
  ·exact h s (List.mem_of_mem_take h1)
  ·rcases List.mem_cons.1 h1 with h2 | h2
   ·rw [h2];exact hx
   ·exact h s (List.mem_of_mem_drop h2)
 unfold zGi
 split
 ·exact hk
 ·exact λs hs=>hk s (List.mem_of_mem_drop hs)
theorem zYM {most:Nat} {σ:Stt} {bs:List zN} (h:Wfs σ.l):Wfs (zBr most σ (zA bs)).l:=by
 unfold zBr
 split
 · exact zWj h (zdE (zZS h _) (zK2 bs))
 · exact h
def zdw (s:zAH):RI:=⟨s.t,s.tm,s.l,.slice none 0 0⟩
def riF (x:RI):RI:=zdw x.sn
def zCl (c:zAG) (l:List zAH) (t:Int):List zGA×Nat:=zEU c (l.map zdw) t
theorem zdG (L:List RI):tms (L.map riF)=tms L:=by unfold tms;rw [List.map_map];rfl
theorem zSH : ∀ L:List RI,zEt (L.map riF)=zEt L
 | []=>rfl
 | x::L=>by
  show (if _ then _ else zEt (L.map riF))=_
  rw [zSH L];rfl
theorem zTR (L:List RI) (i:Nat):(L.map riF).getD i default=riF (L.getD i default):=by
 rw [List.getD_eq_getElem?_getD,List.getD_eq_getElem?_getD,List.getElem?_map]
 cases L[i]? <;> rfl
theorem zXP (L:List RI) (t:Int):∀ k,zLK (L.map riF) t k=zLK L t k
 | 0=>rfl
 | k+1=>by unfold zLK;rw [zXP L t k,zTR,List.length_map];rfl
theorem zZm (L:List RI) (t:Int):zBN (L.map riF) t=zBN L t:=by unfold zBN;rw [zdG,zXP,List.length_map]
theorem zQ7 (c:zAG) (L:List RI):zFz c (L.map riF)=zFz c L:=by unfold zFz;rw [zSH]
theorem zTU (c:zAG) (x:RI) (t:Int):zEb c (riF x) t=zEb c x t:=by
 have h:=zQ7 c [x]
 unfold zEb;rw [show [riF x]=[x].map riF from rfl,h];rfl
theorem zal (c:zAG) (x:RI) (t:Int):zDu c (riF x) t=zDu c x t:=by unfold zDu;rw [zTU];rfl
theorem zUN (c:zAG) (x y:RI) (t:Int):zEe c (riF x) (riF y) t=zEe c x y t:=by
 have h:=zQ7 c [x,y]
 unfold zEe;rw [show [riF x,riF y]=[x,y].map riF from rfl,h];rfl
theorem zYx (c:zAG) (x y:RI) (t:Int):zD5 c (riF x) (riF y) t=zD5 c x y t:=by unfold zD5;rw [zUN];rfl
theorem zZn (c:zAG) (L:List RI) (t:Int):zEU c (L.map riF) t=zEU c L t:=by
 unfold zEU;rw [zQ7,zZm,zTR,zTR,zal,zTU,zYx,zUN]
theorem zU9 (c:zAG) (L:List RI) (t:Int):zEU c L t=zCl c (sns L) t:=by
 unfold zCl;rw [sns,List.map_map];exact (zZn c L t).symm
structure CS where
 σ:Stt
 K:KS
 fr:Nat
structure ShR where
 ready:Bool
 time:Int
 l:List zGA
def zAG.keep (c:zAG):Nat:=c.ring.toNat
def zA7 (c:zAG) (C:CS) (G:zBl):Nat:=zBO C.σ.l c.keep C.σ.floor C.σ.gone G
def zOA (c:zAG) (C:CS) (G:zBl):Int:=(zFW (zBr c.keep C.σ G).l (zJo C.σ.l c.keep C.σ.floor C.σ.gone G)).tm
def zBG (c:zAG) (C:CS) (x:Int) (G:zBl):CS:=⟨zBr c.keep C.σ G,if zA7 c C G=0 then zXw c C.K x (zOA c C G) else C.K,C.fr⟩
def zQd (c:zAG) (C:CS) (x:Int):CS:=⟨C.σ,zJl c C.K x,C.fr+1⟩
def zCW (c:zAG) (C:CS) (x:Int):ShR:=if 0<C.K.l2.length then ⟨true,kTm c C.K x,(zCl c C.σ.l (kTm c C.K x)).1⟩ else ⟨false,0,[]⟩
def C0 (c:zAG):CS:=⟨zXo,K0 c,0⟩
structure CS.ok (c:zAG) (C:CS):Prop where
 k:C.K.ok c
 wf:Wfs C.σ.l
theorem zY4 {c:zAG} (hk:zCm c=0):(C0 c).ok c:=⟨zc5 hk,λs hs=>by cases hs⟩
theorem zEX {c:zAG} {C:CS} {x:Int} {bs:List zN} (hk:zCm c=0) (h:C.ok c):(zBG c C x (zA bs)).ok c:=by
 refine ⟨?_,zYM h.wf⟩
 show KS.ok c (if _ then _ else _)
 split
 · exact zYW hk h.k
 · exact h.k
theorem zNP {c:zAG} {C:CS} {x:Int} (hx:R64 x) (h:C.ok c):(zQd c C x).ok c:=⟨zSD hx h.k,h.wf⟩
instance : Inhabited KP:=⟨⟨0,0,0,0,0,.slice none 0 0,.slice none 0 0,.slice none 0 0,0,0⟩⟩
theorem zdc {c:zAG} {K:KS} {x:Int} (hx:R64 x) (h:K.ok c):R64 (kTm c K x):=by
 have h1:=(zSD hx h).s
 unfold zJl at h1
 unfold kTm
 split at h1
 · rename_i hq;rw [if_pos hq];exact h1
 · rename_i hq;rw [if_neg hq];show R64 0;omega
theorem zZR {L:List RI} {l:List zAH} {j:Nat} {v:Value} (h:sns L=l.take j) (hj:j<l.length):sns (L++[(⟨(sat l (j:Int)).t,(sat l (j:Int)).tm,(sat l (j:Int)).l,v⟩ : RI)])=l.take (j+1):=by
 have hs:sat l (j:Int)=l[j]:=by
  unfold sat
  rw [if_pos (by omega),Int.toNat_natCast,List.getD_eq_getElem?_getD,List.getElem?_eq_getElem hj];rfl
 have h2:sns (L++[(⟨(sat l (j:Int)).t,(sat l (j:Int)).tm,(sat l (j:Int)).l,v⟩ : RI)])=sns L++[sat l (j:Int)]:=by unfold sns;rw [List.map_append];rfl
 rw [h2,h,hs,List.take_succ_eq_append_getElem hj]
theorem zVz {L:List RI} {j:Nat} (h:j<L.length):iV ((L.take j).map RI.t)++[.int .i64 (L.getD j default).t]=iV ((L.take (j+1)).map RI.t):=by
 rw [zJz,List.take_succ_eq_append_getElem h,List.map_append,List.getD_eq_getElem?_getD,List.getElem?_eq_getElem h];rfl
theorem zUW {L:List RI} {l:List zAH} (h:sns L=l):L.map RI.t=l.map zAH.t:=by subst h;unfold sns;rw [List.map_map];rfl
theorem zLx {c:zAG} (hk:zCm c=0):((c.keep:Nat):Int)=c.ring∧1≤c.keep∧c.keep≤64:=by
 obtain ⟨⟨h1,h2,_,_⟩,_⟩:=zGH hk
 unfold zAG.keep
 omega
theorem Mem.resep {w w':World} {S:List Nat} {A B:List HA} (h:Mem w S (A++B) w'):Mem w S (A++[zFa B]) w':=by
 obtain ⟨h1,h2,h3⟩:=Mem.parts h
 refine ⟨h.chg,λy hy=>?_,h3,by rw [zD9];exact h.ge⟩
 rcases List.mem_append.1 hy with e | e
 · exact h1 y e
 · rw [List.mem_singleton] at e;rw [e];exact h2
theorem Mem.wide {w w':World} {S:List Nat} {N:List HA} (h:Mem w [] N w'):Mem w S N w':=⟨⟨h.chg.os,h.chg.tape,h.chg.output,h.chg.size,λk hk _=>h.chg.block k hk (by simp)⟩,h.all,h.nd,λk hk=>(h.ge k hk).elim (λh=>by cases h) .inr⟩
theorem zcO {e:Nat} {L:List RI} {w:World} {most:Nat} (h:(rws e L).p w) (ho:Oks (sns L) most) (hw:Wfs (sns L)):∀ x∈L,x.ok w:=by
 intro x hx
 have hm:x.sn∈sns L:=List.mem_map.2 ⟨x,hx,rfl⟩
 obtain ⟨h1,h2,h3,h4,h5⟩:=ho.rng x.sn hm
 exact ⟨⟨by have:(0:Int)≤x.t:=h1;omega,by have:x.t≤4294967295:=h2;omega⟩,⟨h3,h4⟩,zEj h (.inl hx),hw x.sn hm⟩
section
variable {P : Program} {ops : Array Oper} {Q : Exit → Act → World → Prop} {rest : List Oper} {n : Nat} {F : List (Nat × Value)} {w0 : World} {S : List Nat} {M : List HA} {a : Act} {w : World} {d : Nat} {ty : TypeId} {pos : String} {af : Array Edge}
end
theorem zF4 (c:zAG) (C:CS) (x:Int) (G:zBl) (i:Nat):(zBG c C x G).σ.n i≤C.σ.n i+1:=by
 show (zBr _ _ _).n i≤_
 unfold zBr
 split<;>(show zBH _ _ i≤_;unfold zBH;split<;>omega)
open Go.RowKit Go.ChangeShapes Go.WideShapes
variable {W : World}
theorem zc7 {c:List Value} (h:AllK W c [.i .u8]):∃ b:zN,c=[zMF b]:=by
 obtain ⟨u,us,rfl,h1,h2⟩:=h.split
 rw [h2.none]
 cases h1 with
 | i w =>
  obtain ⟨X,hX⟩:=zIo w
  exact ⟨X,by rw [hX];rfl⟩
theorem zRq {α:Type} (f:α→Value):∀ (l:List α),(l.flatMap λx=>[f x])=l.map f
 | []=>rfl
 | a::l=>by simp [zRq f l]
def zd4 (c:zAG):List Value:=[.int .i64 c.ring,.int .i64 c.window,.int .i64 c.base,.int .i64 c.gain,.int .i64 c.least,.int .i64 c.most,.int .i64 c.slack,.int .i64 c.num,.int .i64 c.den,.int .i64 c.extra,.bool c.curve]
theorem OneK.boo {v:Value} (h:OneK W v .b):∃ b:Bool,v = .bool b:=by cases h;exact ⟨_,rfl⟩
theorem zcE {cs:List Value} (h:AllK W cs [.i .i64,.i .i64,.i .i64,.i .i64,.i .i64,.i .i64,.i .i64,.i .i64,.i .i64,.i .i64,.b]):∃ c:zAG,cs=zd4 c:=by
 obtain ⟨_,_,rfl,h1,h⟩:=h.split
 obtain ⟨_,_,rfl,h2,h⟩:=h.split
 obtain ⟨_,_,rfl,h3,h⟩:=h.split
 obtain ⟨_,_,rfl,h4,h⟩:=h.split
 obtain ⟨_,_,rfl,h5,h⟩:=h.split
 obtain ⟨_,_,rfl,h6,h⟩:=h.split
 obtain ⟨_,_,rfl,h7,h⟩:=h.split
 obtain ⟨_,_,rfl,h8,h⟩:=h.split
 obtain ⟨_,_,rfl,h9,h⟩:=h.split
 obtain ⟨_,_,rfl,h10,h⟩:=h.split
 obtain ⟨_,_,rfl,h11,h⟩:=h.split
 obtain rfl:=h.none
 obtain ⟨z1,rfl,_⟩:=h1.i64
 obtain ⟨z2,rfl,_⟩:=h2.i64
 obtain ⟨z3,rfl,_⟩:=h3.i64
 obtain ⟨z4,rfl,_⟩:=h4.i64
 obtain ⟨z5,rfl,_⟩:=h5.i64
 obtain ⟨z6,rfl,_⟩:=h6.i64
 obtain ⟨z7,rfl,_⟩:=h7.i64
 obtain ⟨z8,rfl,_⟩:=h8.i64
 obtain ⟨z9,rfl,_⟩:=h9.i64
 obtain ⟨z10,rfl,_⟩:=h10.i64
 obtain ⟨b,rfl⟩:=h11.boo
 exact ⟨⟨z1,z2,z3,z4,z5,z6,z7,z8,z9,z10,b⟩,rfl⟩
structure EvR where
 k:Int
 at_:Int
 v:Value
 bs:List zN
instance : Inhabited EvR:=⟨⟨0,0,.slice none 0 0,[]⟩⟩
def evV (x:EvR):List Value:=[.int .i64 x.k,.int .i64 x.at_,x.v]
theorem zHR (x:EvR):(evV x).length=3:=rfl
structure EvR.ok (W:World) (x:EvR):Prop where
 k:R64 x.k
 at_:R64 x.at_
 rd:Rd W [] x.v 1 x.bs.length (zC x.bs)
theorem zc6 {c:List Value} (h:AllK W c [.i .i64,.i .i64,.s 1 [.i .u8]]):∃ x:EvR,c=evV x∧x.ok W:=by
 obtain ⟨_,_,rfl,h1,h⟩:=h.split
 obtain ⟨_,_,rfl,h2,h⟩:=h.split
 obtain ⟨_,_,rfl,h3,h⟩:=h.split
 obtain rfl:=h.none
 obtain ⟨z1,rfl,w1⟩:=h1.i64
 obtain ⟨z2,rfl,w2⟩:=h2.i64
 obtain ⟨len,f,hf,hr⟩:=h3.sl
 obtain ⟨bs,hl,he⟩:=zTK (g:=λb:zN=>[zMF b]) len λi hi=>zc7 (hf i hi)
 rw [he,zRq] at hr
 rw [← hl] at hr
 exact ⟨⟨z1,z2,_,bs⟩,rfl,⟨w1,w2,hr⟩⟩
theorem zU8 {H : Type} {enc : TypeId × Value → H} {P : Program} {t e : TypeId} {a : Option Addr} {len cap m : Nat} {dd : DataW H} {p : List MemPlace} (hu : P.underlying t = some (.slice e)) (hk : zG9 P m t = some [.s 3 [.i .i64, .i .i64, .s 1 [.i .u8]]]) (h : DataW.Trod enc P W 0 (fun _ => true) true t (.slice a len cap) dd p) :
   ∃ L:List EvR,Rd W [] (.slice a len cap) 3 L.length (L.flatMap evV)∧∀ x∈L,x.ok W:=by
 obtain ⟨f,hf,hr⟩:=zNd hu hk h
 obtain ⟨l,hl,he,hp⟩:=zPe (g:=evV) (p:=λx:EvR=>x.ok W) len λi hi=>zc6 (hf i hi)
 subst hl
 rw [he] at hr
 exact ⟨l,hr,hp⟩
theorem zGR {l:List EvR} {i:Nat} (h:i<l.length):l.getD i default∈l:=by
 rw [List.getD_eq_getElem?_getD,List.getElem?_eq_getElem h];exact List.getElem_mem h
def plC : zAG:=⟨8,4,0,0,0,0,0,1,1,5,false⟩
def zOy (t tm:Int) (l:List zS):List zN:=gwB (fG t tm l).t (fG t tm l).tm (fG t tm l).b (fG t tm l).l
theorem zIX (t tm:Int) (l:List zS):(zOy t tm l).length≤1000000:=Nat.le_trans (zDT _ _ _ _) (by decide)
def zSo (L:List EvR):Nat→Int
 | 0=>0
 | j+1=>IntKind.i64.wrap (zSo L j+((L.getD j default).bs.length:Int))
def Grt (L:List EvR):Prop:=60<L.length∨12000<zSo L L.length
instance (L:List EvR):Decidable (Grt L):=by unfold Grt;infer_instance
theorem zXy (L:List EvR):∀ j,R64 (zSo L j)
 | 0=>by show R64 0;omega
 | j+1=>zBT _
def tEn (x:Int):zS:=⟨1,x,0,0,65536,0,0,0#16,0#8⟩
theorem zPB {x:Int} (h:R64 x):∀ e∈[tEn x],e.wf:=by
 intro e he;rw [List.mem_singleton] at he;rw [he]
 exact ⟨(by show R64 1;omega),h,(by show R64 0;omega),(by show R64 0;omega),(by show R64 65536;omega),(by show R64 0;omega),(by show R64 0;omega)⟩
theorem zVp : zCm plC=0:=by decide +kernel
theorem zdM : zNK 1 0 [tEn 0]=0:=by decide +kernel
theorem zdb : zNK 2 10 [tEn 10]=0:=by decide +kernel
def tP0 : zW:=zD6 (tEn 0)
def tP1 : zW:=zD6 (tEn 10)
theorem zb0 : fG 1 0 [tEn 0]=⟨1,0,-1,[tP0]⟩:=by rw [zbX zdM];kernel_rfl
theorem zcJ : fG 2 10 [tEn 10]=⟨2,10,-1,[tP1]⟩:=by rw [zbX zdb];kernel_rfl
theorem zTk : zA (zOy 1 0 [tEn 0])=⟨1,0,-1,[tP0],0⟩:=by
 have h:=zJJ (zYZ (bt:=1) (btm:=0) (zPB (x:=0) (by omega))) (t:=1) (tm:=0) (b:=-1) (by rw [zb0];decide +kernel)
 unfold zOy;rw [zb0] at h ⊢;exact h
theorem zVY : zA (zOy 2 10 [tEn 10])=⟨2,10,-1,[tP1],0⟩:=by
 have h:=zJJ (zYZ (bt:=2) (btm:=10) (zPB (x:=10) (by omega))) (t:=2) (tm:=10) (b:=-1) (by rw [zcJ];decide +kernel)
 unfold zOy;rw [zcJ] at h ⊢;exact h
def tS1 : CS:=zBG plC (C0 plC) 100 (zA (zOy 1 0 [tEn 0]))
def tS2 : CS:=zBG plC tS1 110 (zA (zOy 2 10 [tEn 10]))
def tS3 : CS:=zQd plC tS2 104
def tS4 : CS:=zQd plC tS3 113
theorem zd5 : zA7 plC (C0 plC) (zA (zOy 1 0 [tEn 0]))=0:=by rw [zTk];decide +kernel
theorem zd3 : zA7 plC tS1 (zA (zOy 2 10 [tEn 10]))=0:=by unfold tS1;rw [zTk,zVY];decide +kernel
theorem zdx : zCW plC tS2 104=⟨true,4,[⟨1,4,0,0,0#16,1⟩]⟩:=by unfold tS2 tS1;rw [zTk,zVY];kernel_rfl
theorem zd6 : zCW plC tS3 113=⟨true,13,[⟨1,13,0,0,0#16,3⟩]⟩:=by unfold tS3 tS2 tS1;rw [zTk,zVY];kernel_rfl
theorem zd1 : zCW plC tS4 900=⟨true,800,[⟨1,15,0,0,0#16,4⟩]⟩:=by unfold tS4 tS3 tS2 tS1;rw [zTk,zVY];kernel_rfl
theorem zXp : (C0 plC).ok plC:=zY4 zVp
theorem zXb : tS1.ok plC:=zEX zVp zXp
theorem zXH : tS2.ok plC:=zEX zVp zXb
theorem zXZ : tS3.ok plC:=zNP (by decide) zXH
theorem zcM : tS4.ok plC:=zNP (by decide) zXZ
theorem zde : ∀ i,(C0 plC).σ.n i≤1000000:=λi=>Nat.zero_le _
theorem zdP : ∀ i,tS1.σ.n i≤1000000:=λi=>Nat.le_trans (zF4 _ (C0 plC) _ _ i) (by decide:0+1≤1000000)
theorem zZs : ∀ i,tS2.σ.n i≤1000000:=λi=>Nat.le_trans (zF4 _ tS1 _ _ i) (Nat.le_trans (Nat.succ_le_succ (zF4 _ (C0 plC) _ _ i)) (by decide:0+1+1≤1000000))
theorem zSs : (C0 plC).fr≤1000000:=by decide
theorem zcV : tS3.fr≤1000000:=(by decide:1≤1000000)
theorem zbe : tS4.fr≤1000000:=(by decide:2≤1000000)
section
variable {P : Program} {ops : Array Oper} {Q : Exit → Act → World → Prop} {rest : List Oper} {n : Nat} {F : List (Nat × Value)} {w0 : World} {S : List Nat} {M : List HA} {a : Act} {w : World} {d : Nat} {ty : TypeId} {pos : String} {af : Array Edge}
theorem zJs {t kt e : TypeId} {m x y : Operand} {g : Nat} {k : Int} {u : Value} {kv kv' : List (Int × Value)} {M' : List HA} (hs : St n F w0 S M a w) (hm : evo F m = some (.map (some g))) (hx : evo F x = some (.int .i64 k)) (hy : evo F y = some u) (hb : Del M (mpr g kv) M')
   (ht:P.underlying t=some (.map kt e)) (hkt:P.underlying kt=some (.int .i64)) (he:zOt k u kv=kv')
   (c:∀ a w,St n F w0 S (mpr g kv'::M') a w→wpList P ops Q rest a w):wpList P ops Q (⟨none,.insert t m x y,ty,pos,af,none⟩::rest) a w:=by
 subst he
 obtain ⟨w',hr,hw⟩:=zSp (hs.mem.del hb) ht hkt (k:=k) (u:=u)
 exact zIZ rfl rfl (by simp [execOp,hs.ev hm,hs.ev hx,hs.ev hy,hr]) (c _ _ (hs.frame (.c hb .n) hw))
theorem zKj {t kt e : TypeId} {m x : Operand} {g : Nat} {k : Int} {kv : List (Int × Value)} {z v : Value} {b : Bool} {M' : List HA} (hs : St n F w0 S M a w) (hm : evo F m = some (.map (some g))) (hx : evo F x = some (.int .i64 k)) (hb : Del M (mpr g kv) M')
   (ht:P.underlying t=some (.map kt e)) (hkt:P.underlying kt=some (.int .i64)) (hz:∀ w,(zeroValue e).run P w = .ok z w) (hv:(zIR k kv).getD z=v) (hq:(zIR k kv).isSome=b) (hd:Nat.blt d n=true)
   (c:∀ a w,St n ((d,.tuple #[v,.bool b])::F) w0 S M a w→wpList P ops Q rest a w):wpList P ops Q (⟨some d,.lookup t m x true,ty,pos,af,none⟩::rest) a w:=by
 subst hv hq
 exact zRP hs hm hx hb ht hkt hz hd c
end
theorem zOz {k:Int} {a b:Value} (h0:k≠0) (h1:k≠1):zIR k [(0,a),(1,b)]=none:=by
 simp only [zIR]
 rw [if_neg (λh=>h0 h.symm),if_neg (λh=>h1 h.symm)]
def cDo (c:zAG) (C:CS) (e:EvR):CS:=if e.k=0 then zBG c C e.at_ (zA e.bs) else if e.k=1 then zQd c C e.at_ else C
def zGY (c:zAG) (C:CS) (e:EvR):ShR:=if e.k=1 then zCW c C e.at_ else ⟨false,0,[]⟩
def zLw (c:zAG) (C:CS) (e:EvR):Nat:=if e.k=0 then zA7 c C (zA e.bs) else if e.k=1 then 0 else 11
theorem zFJ {c:zAG} {C:CS} {e:EvR} (hk:zCm c=0) (he:R64 e.at_) (h:C.ok c):(cDo c C e).ok c:=by
 unfold cDo
 split
 ·exact zEX hk h
 ·split
  ·exact zNP he h
  ·exact h
theorem zI7 (c:zAG) (C:CS) (e:EvR) (i:Nat):(cDo c C e).σ.n i≤C.σ.n i+1:=by
 unfold cDo
 split
 ·exact zF4 _ _ _ _ i
 ·split
  ·exact Nat.le_succ _
  ·exact Nat.le_succ _
theorem zb9 (c:zAG) (C:CS) (e:EvR):(cDo c C e).fr=C.fr+(if e.k=1 then 1 else 0):=by
 unfold cDo
 split
 · rename_i h;rw [if_neg (by omega)];rfl
 · split<;>rfl
theorem zEd (c:zAG) (C:CS) (e:EvR):(cDo c C e).fr≤C.fr+1:=by rw [zb9];split<;>omega
structure zMd (C D:CS):Prop where
 σ:C.σ=D.σ
 l1:C.K.l1=D.K.l1
 l2:C.K.l2=D.K.l2
 l3:C.K.l3=D.K.l3
 j:C.K.j=D.K.j
 now:C.K.now=D.K.now
theorem zMd.refl (C:CS):zMd C C:=⟨rfl,rfl,rfl,rfl,rfl,rfl⟩
theorem zMd.off {C D:CS} (h:zMd C D):C.K.off=D.K.off:=by unfold KS.off;rw [h.l2]
theorem zMd.frm {C D:CS} (h:zMd C D) (c:zAG) (x:Int):zMd (zQd c C x) D:=by
 obtain ⟨h1,h2,h3,h4,h5,h6⟩:=h
 unfold zQd zJl
 split<;>exact ⟨h1,h2,h3,h4,h5,h6⟩
theorem zMd.err {C D:CS} (h:zMd C D) (c:zAG) (G:zBl):zA7 c C G=zA7 c D G:=by unfold zA7;rw [h.σ]
theorem zMd.arr {C D:CS} (h:zMd C D) (c:zAG) (x:Int) (G:zBl):zMd (zBG c C x G) (zBG c D x G):=by
 have he:=h.err c G
 obtain ⟨h1,h2,h3,h4,h5,h6⟩:=h
 have ht:zOA c C G=zOA c D G:=by unfold zOA;rw [h1]
 unfold zBG
 rw [he,ht,h1]
 split
 ·unfold zXw
  rw [h2,h3,h4,h5,h6]
  exact ⟨rfl,rfl,rfl,rfl,rfl,rfl⟩
 ·exact ⟨rfl,h2,h3,h4,h5,h6⟩
theorem zMd.do_ {C D:CS} (h:zMd C D) (c:zAG) {e:EvR} (he:e.k≠1):zMd (cDo c C e) (cDo c D e):=by
 unfold cDo
 split
 · exact h.arr c _ _
 · first | exact h | (rw [if_neg he,if_neg he];exact h)
theorem zMd.doE {C D:CS} (h:zMd C D) (c:zAG) (e:EvR):zLw c C e=zLw c D e:=by unfold zLw;rw [h.err]
theorem zc0 {a b:Nat} (h:a=b):(!(((a:Nat):Int)==((b:Nat):Int)))=false:=by subst h;simp
theorem zdg {a b:Int} (h:a=b):(!(a==b))=false:=by subst h;simp
def zak (σ:Stt) (t:Int):Prop:=zDA σ.l t=true∨(σ.gone=true∧t≤σ.floor)
def zQO (σ:Stt):Prop:=σ.gone=true→∀ x∈σ.l,σ.floor<x.t
theorem zFY {l:List zAH} {k:Int}:zDA l k=true↔∃ x∈l,x.t=k:=by
 unfold zDA
 rw [List.any_eq_true]
 constructor
 · rintro ⟨x,h,e⟩;exact ⟨x,h,by simpa using e⟩
 · rintro ⟨x,h,e⟩;exact ⟨x,h,by simpa using e⟩
theorem zFm {α:Type} {l:List α} {i:Nat} {x y:α}:y∈zBw l i x↔y=x∨y∈l:=by
 constructor
 ·exact zPd
 ·unfold zBw
  rintro (rfl | h)
  ·simp
  ·rw [← List.take_append_drop i l] at h
   simp only [List.mem_append,List.mem_cons] at h ⊢
   rcases h with h | h<;>simp [h]
theorem zHi {l : List zAH} {most : Nat} {fl : Int} {gone : Bool} {x : zAH} (ho : Oks l most) (hk : zDA l x.t = false) (hz : ¬ (zAZ l x.t = 0 ∧ l.length = most)) :
   (l.length<most∧zGi l most x=zBw l (zAZ l x.t) x∧zKu l most fl x=fl∧zK8 l most gone x=gone) ∨
   (l.length=most∧∃ y r,l=y::r∧y.t<x.t∧zBw l (zAZ l x.t) x=y::zGi l most x∧zKu l most fl x=y.t∧zK8 l most gone x=true):=by
 have hl:=zGy l x (zDG l x.t)
 have hle:=ho.le
 unfold zGi zKu zK8
 by_cases h:(zBw l (zAZ l x.t) x).length≤most
 · left
   rw [if_pos h,if_pos h,if_pos h]
   exact ⟨by omega,rfl,rfl,rfl⟩
 · right
   rw [if_neg h,if_neg h,if_neg h]
   have hlm:l.length=most:=by omega
   have hp:0<zAZ l x.t:=by
     rcases Nat.eq_zero_or_pos (zAZ l x.t) with h0 | h0
     · exact absurd ⟨h0,hlm⟩ hz
     · exact h0
   cases l with
   | nil=>simp [zAZ] at hp
   | cons y r =>
     have hy:=zOC ho.srt hp
     have hy:y.t<x.t:=by simpa using hy
     have e:zBw (y::r) (zAZ (y::r) x.t) x=y::(zBw (y::r) (zAZ (y::r) x.t) x).drop 1:=by
       obtain ⟨p,hpe⟩ : ∃ p,zAZ (y::r) x.t=p+1:=⟨zAZ (y::r) x.t-1,by omega⟩
       rw [hpe]
       simp [zBw]
     refine ⟨hlm,y,r,rfl,hy,e,?_,rfl⟩
     rw [e];rfl
theorem zMx {σ:Stt} {most:Nat} {G:zBl} (h:zBO σ.l most σ.floor σ.gone G=0):zDA σ.l (zAP σ.l G).t=false∧¬ (zAZ σ.l (zAP σ.l G).t=0∧σ.l.length=most)∧¬ (σ.gone=true∧(zAP σ.l G).t≤σ.floor)∧(zAP σ.l G).t=G.t∧(zAP σ.l G).tm=G.tm∧zBr most σ G=⟨zGi σ.l most (zAP σ.l G),zKu σ.l most σ.floor (zAP σ.l G),zK8 σ.l most σ.gone (zAP σ.l G),zBH σ.n 0⟩:=by
 obtain ⟨_,h2,h3,_,h5,_⟩:=zHl h
 have h7:=zPV h5
 refine ⟨by rw [h7.1];exact h2,λhc=>?_,λhc=>?_,h7.1,h7.2,if_pos h⟩
 ·rw [h7.1] at hc
  unfold stl at h3
  rw [kuntil_no' h2,hc.1,hc.2] at h3
  simp at h3
 ·rw [h7.1] at hc
  unfold stl at h3
  rw [hc.1] at h3
  simp [hc.2] at h3
where kuntil_no' {l:List zAH} {k:Int} (h:zDA l k=false):zAB l k=zAZ l k:=by unfold zAB;rw [h];rfl
theorem zL3 {σ:Stt} {most:Nat} {G:zBl} (h:zBO σ.l most σ.floor σ.gone G≠0):zBr most σ G=⟨σ.l,σ.floor,σ.gone,zBH σ.n (zBO σ.l most σ.floor σ.gone G)⟩:=if_neg h
theorem zI1 {σ:Stt} {most:Nat} {G:zBl} (ho:Oks σ.l most) (ha:zQO σ):zQO (zBr most σ G):=by
 by_cases h:zBO σ.l most σ.floor σ.gone G=0
 ·obtain ⟨h1,h2,h3,_,_,h4⟩:=zMx h
  rw [h4]
  rcases zHi (fl:=σ.floor) (gone:=σ.gone) ho h1 h2 with ⟨_,e1,e2,e3⟩ | ⟨_,y,r,e0,hy,e1,e2,e3⟩
  ·unfold zQO
   rw [e1,e2,e3]
   intro hg x hx
   rcases zFm.1 hx with rfl | hx
   ·dsimp only at hg ⊢;have:¬ _:=λhc=>h3 ⟨hg,hc⟩;omega
   ·exact ha hg x hx
  ·unfold zQO
   dsimp only
   rw [e2]
   intro _ x hx
   have hs:=zPi (x:=zAP σ.l G) ho.srt h1
   rw [e1] at hs
   exact (List.pairwise_cons.1 hs).1 x hx
 ·rw [zL3 h];exact ha
theorem zIG {σ:Stt} {most:Nat} {G:zBl} {t:Int} (ho:Oks σ.l most) (ha:zQO σ) (hh:zak σ t):zak (zBr most σ G) t:=by
 by_cases h:zBO σ.l most σ.floor σ.gone G=0
 ·obtain ⟨h1,h2,h3,_,_,h4⟩:=zMx h
  rw [h4]
  rcases zHi (fl:=σ.floor) (gone:=σ.gone) ho h1 h2 with ⟨_,e1,e2,e3⟩ | ⟨_,y,r,e0,hy,e1,e2,e3⟩
  ·unfold zak
   dsimp only
   rw [e1,e2,e3]
   rcases hh with hh | hh
   ·left
    obtain ⟨x,hx,he⟩:=zFY.1 hh
    exact zFY.2 ⟨x,zFm.2 (.inr hx),he⟩
   ·exact .inr hh
  ·unfold zak
   dsimp only
   rw [e2,e3]
   rcases hh with hh | hh
   ·obtain ⟨x,hx,he⟩:=zFY.1 hh
    have hm:x∈zBw σ.l (zAZ σ.l (zAP σ.l G).t) (zAP σ.l G):=zFm.2 (.inr hx)
    rw [e1] at hm
    rcases List.mem_cons.1 hm with rfl | hm
    ·right;exact ⟨rfl,by omega⟩
    ·left;exact zFY.2 ⟨x,hm,he⟩
   ·right
    have:=ha hh.1 y (by rw [e0];simp)
    exact ⟨rfl,by omega⟩
 ·rw [zL3 h];exact hh
theorem zTA {σ:Stt} {most:Nat} {G:zBl} (ho:Oks σ.l most) (h:zBO σ.l most σ.floor σ.gone G=0):zDA (zBr most σ G).l G.t=true:=by
 obtain ⟨h1,h2,h3,h5,_,h4⟩:=zMx h
 rw [h4,← h5]
 dsimp only
 rcases zHi (fl:=σ.floor) (gone:=σ.gone) ho h1 h2 with ⟨_,e1,e2,e3⟩ | ⟨_,y,r,e0,hy,e1,e2,e3⟩
 ·rw [e1];exact zFY.2 ⟨_,zFm.2 (.inl rfl),rfl⟩
 ·have hm:zAP σ.l G∈zBw σ.l (zAZ σ.l (zAP σ.l G).t) (zAP σ.l G):=zFm.2 (.inl rfl)
  rw [e1] at hm
  rcases List.mem_cons.1 hm with he | hm
  ·rw [← he] at hy;omega
  ·exact zFY.2 ⟨_,hm,rfl⟩
theorem zKn {l:List zAH} {most:Nat} {fl:Int} {gone:Bool} {G:zBl} (h:G.e=0) (hk:zDA l G.t=true):zBO l most fl gone G=12:=by
 have e:zH4 l most fl gone G=12:=by
  unfold zH4
  rw [zLh h hk,zHs (e:=12) (by decide),zHs (e:=12) (by decide)]
 rw [zJw h (by omega),e]
theorem zZ8 {σ:Stt} {most:Nat} {G:zBl} (h:G.e=0) (hk:zDA σ.l G.t=false) (hh:zak σ G.t):zBO σ.l most σ.floor σ.gone G=13:=by
 have hs:stl σ.l most σ.floor σ.gone G.t=true:=by
  rcases hh with hh | ⟨h1,h2⟩
  ·rw [hk] at hh;cases hh
  ·unfold stl;rw [h1];simp [h2]
 have e:zH4 σ.l most σ.floor σ.gone G=13:=by
  unfold zH4
  rw [zOR hk,zLh h hs,zHs (e:=13) (by decide)]
 rw [zJw h (by omega),e]
structure zJP (most:Nat) (σ:Stt) (K:List (List zN)):Prop where
 ok:Oks σ.l most
 ab:zQO σ
 got:∀ b∈K,(zA b).e=0∧zak σ (zA b).t
 num:σ.n 0=K.length
theorem zJP.start {most:Nat} (h:1≤most∧most≤64):zJP most zXo []:=⟨zY0 h,λhh=>(by cases hh),by simp,rfl⟩
theorem zJP.no {most:Nat} {σ:Stt} {K:List (List zN)} {b:List zN} (h:zJP most σ K) (he:zBO σ.l most σ.floor σ.gone (zA b)≠0):zJP most (zBr most σ (zA b)) K:=by
 refine ⟨zI9 h.ok,zI1 h.ok h.ab,λc hc=>⟨(h.got c hc).1,zIG h.ok h.ab (h.got c hc).2⟩,?_⟩
 rw [zL3 he]
 show zBH σ.n _ 0=_
 unfold zBH
 rw [if_neg (λe=>he e.symm),h.num]
theorem zJP.yes {most : Nat} {σ : Stt} {K : List (List zN)} {b : List zN} (h : zJP most σ K) (he : zBO σ.l most σ.floor σ.gone (zA b) = 0) :
   zBO (zBr most σ (zA b)).l most (zBr most σ (zA b)).floor (zBr most σ (zA b)).gone (zA b)=12∧zJP most (zBr most (zBr most σ (zA b)) (zA b)) (K++[b]):=by
 have h0:=(zHl he).1
 have hh:=zTA h.ok he
 have hd:=zKn (most:=most) (fl:=(zBr most σ (zA b)).floor) (gone:=(zBr most σ (zA b)).gone) h0 hh
 have hok:=zI9 (bs:=b) h.ok
 have hab:=zI1 (G:=zA b) h.ok h.ab
 refine ⟨hd,zI9 hok,zI1 hok hab,λc hc=>?_,?_⟩
 · rcases List.mem_append.1 hc with hc | hc
   · exact ⟨(h.got c hc).1,zIG hok hab (zIG h.ok h.ab (h.got c hc).2)⟩
   · rw [List.mem_singleton.1 hc]
     exact ⟨h0,zIG hok hab (.inl hh)⟩
 · rw [zL3 (by rw [hd];decide)]
   show zBH (zBr most σ (zA b)).n _ 0=_
   rw [hd]
   unfold zBH
   rw [if_neg (by decide),(zMx he).2.2.2.2.2]
   show zBH σ.n 0 0=_
   unfold zBH
   rw [if_pos rfl,h.num,List.length_append];rfl
theorem zJP.again {most:Nat} {σ:Stt} {K:List (List zN)} {b:List zN} (h:zJP most σ K) (hb:b∈K):(zA b).e=0∧zBO σ.l most σ.floor σ.gone (zA b)=(if zDA σ.l (zA b).t=true then 12 else 13)∧zJP most (zBr most σ (zA b)) K:=by
 obtain ⟨h1,h2⟩:=h.got b hb
 have e:zBO σ.l most σ.floor σ.gone (zA b)=(if zDA σ.l (zA b).t=true then 12 else 13):=by
  split
  ·next hk=>exact zKn h1 hk
  ·next hk=>exact zZ8 h1 (by simpa using hk) h2
 exact ⟨h1,e,h.no (by rw [e];split<;>decide)⟩
theorem zHU : ∀ (n:Nat) (was:List zS) (rl:List zW),was.length+rl.length≤n→(∀ r∈rl,zAK r=0)→∀ l,apl was rl=some l→∀ x∈l,(∃ y∈was,y.id=x.id)∨(∃ r∈rl,r.id=x.id)
 | _,was,[],_,_,l,h,x,hx=>by
  unfold apl at h
  injection h with h
  subst h
  exact .inl ⟨x,hx,rfl⟩
 | 0,was,r::rl,hn,_,_,_,_,_=>by simp at hn
 | n+1,[],r::rl,hn,hc,l,h,x,hx=>by
  unfold apl at h
  split at h
  ·obtain ⟨l',h1,rfl⟩:=Option.map_eq_some_iff.1 h
   rcases List.mem_cons.1 hx with rfl | hx
   ·exact .inr ⟨r,by simp,rfl⟩
   ·rcases zHU n [] rl (by simp at hn ⊢;omega) (λr hr=>hc r (by simp [hr])) l' h1 x hx with ⟨y,hy,_⟩ | ⟨r',hr,e⟩
    ·cases hy
    ·exact .inr ⟨r',by simp [hr],e⟩
  ·cases h
 | n+1,y::was,r::rl,hn,hc,l,h,x,hx=>by
  have up:∀ {was':List zS} {rl':List zW},((∃ y∈was',y.id=x.id)∨(∃ r∈rl',r.id=x.id))→(∀ z∈was',z∈y::was)→(∀ z∈rl',z∈r::rl)→((∃ z∈y::was,z.id=x.id)∨(∃ z∈r::rl,z.id=x.id)):=λh h1 h2=>by
   rcases h with ⟨z,hz,e⟩ | ⟨z,hz,e⟩
   ·exact .inl ⟨z,h1 z hz,e⟩
   ·exact .inr ⟨z,h2 z hz,e⟩
  have hc':∀ z∈rl,zAK z=0:=λr hr=>hc r (by simp [hr])
  unfold apl at h
  split at h
  ·obtain ⟨l',h1,rfl⟩:=Option.map_eq_some_iff.1 h
   rcases List.mem_cons.1 hx with rfl | hx
   ·exact .inl ⟨x,by simp,rfl⟩
   ·exact up (zHU n was (r::rl) (by simp at hn ⊢;omega) hc l' h1 x hx) (by simp +contextual) (by simp)
  ·split at h
   ·rename_i hid
    split at h
    ·cases h
    ·rename_i hk0
     split at h
     ·exact up (zHU n was rl (by simp at hn ⊢;omega) hc' l h x hx) (by simp +contextual) (by simp +contextual)
     ·rename_i hk2
      obtain ⟨l',h1,rfl⟩:=Option.map_eq_some_iff.1 h
      rcases List.mem_cons.1 hx with rfl | hx
      ·refine .inl ⟨y,by simp,?_⟩
       exact (zGK (hc r (by simp)) hid.symm hk0 hk2).1.symm
      ·exact up (zHU n was rl (by simp at hn ⊢;omega) hc' l' h1 x hx) (by simp +contextual) (by simp +contextual)
   ·split at h
    ·obtain ⟨l',h1,rfl⟩:=Option.map_eq_some_iff.1 h
     rcases List.mem_cons.1 hx with rfl | hx
     ·exact .inr ⟨r,by simp,rfl⟩
     ·exact up (zHU n (y::was) rl (by simp at hn ⊢;omega) hc' l' h1 x hx) (by simp) (by simp +contextual)
    ·cases h
theorem zP4 {at_ atm gt gtm gb:Int} {a:List zS} {rl:List zW} (h:aE at_ atm a gt gtm gb rl=0):zV (aS at_ atm a gt gtm gb rl).t (aS at_ atm a gt gtm gb rl).tm (aS at_ atm a gt gtm gb rl).l=0:=by
 obtain ⟨h1,h2,l,h3,h4⟩:=zPM h
 obtain ⟨hg,hr⟩:=zDM h1
 obtain ⟨g1,g2,g3,g4,_⟩:=zFl hg
 obtain ⟨hs,hc⟩:=zFk hr
 have hw:=zML h2
 rw [zcx h,h3]
 dsimp only [Option.getD_some]
 have hS:Srt l:=(zLA _ (zFA gb a) rl (Nat.le_refl _) [] (zFA gb a) (List.Perm.refl _) hw (by simp) hs (λr hr=>(hc r hr).1)).2 l h3 |>.1
 have hR:∀ x∈l,0≤x.id∧x.id≤65535:=λx hx=>by
  rcases zHU _ (zFA gb a) rl (Nat.le_refl _) (λr hr=>(hc r hr).1) l h3 x hx with ⟨y,hy,e⟩ | ⟨r,hr,e⟩
  ·unfold zFA at hy
   split at hy
   ·rename_i hg
    have:=zLE (zCa (h2 hg).1).2.2.2.2.2 y hy
    omega
   ·cases hy
  ·have:=(hc r hr).2;omega
 rw [zCF (by omega) (by omega)]
 exact zYL hS hR
structure zOG (σ:Stt) (most:Nat):Prop where
 ok:Oks σ.l most
 sn:∀ x∈σ.l,zV x.t x.tm x.l=0
 up:σ.l.Pairwise λx y=>x.tm<y.tm
theorem zQv {l:List zAH} {x:zAH} {i:Nat} (h:l.Pairwise λx y=>x.tm<y.tm) (hi:i≤l.length) (h1:0<i→(l.getD (i-1) default).tm<x.tm) (h2:i<l.length→x.tm<(l.getD i default).tm):(zBw l i x).Pairwise λx y=>x.tm<y.tm:=by
 have hp:=List.pairwise_iff_getElem.1 h
 have b1:∀ y∈l.take i,y.tm<x.tm:=λy hy=>by
  obtain ⟨j,hj,rfl⟩:=List.getElem_of_mem hy
  rw [List.length_take] at hj
  rw [List.getElem_take]
  have h3:=h1 (by omega)
  rw [List.getD_eq_getElem?_getD,List.getElem?_eq_getElem (show i-1<l.length by omega)] at h3
  change (l[i-1]).tm<x.tm at h3
  by_cases e:j=i-1
  ·subst e;exact h3
  ·have:=hp j (i-1) (by omega) (by omega) (by omega);omega
 have b2:∀ y∈l.drop i,x.tm<y.tm:=λy hy=>by
  obtain ⟨j,hj,rfl⟩:=List.getElem_of_mem hy
  rw [List.length_drop] at hj
  rw [List.getElem_drop]
  have h3:=h2 (by omega)
  rw [List.getD_eq_getElem?_getD,List.getElem?_eq_getElem (show i<l.length by omega)] at h3
  change x.tm<(l[i]).tm at h3
  by_cases e:j=0
  ·subst e;simpa using h3
  ·have:=hp i (i+j) (by omega) (by omega) (by omega);omega
 unfold zBw
 refine List.pairwise_append.2 ⟨h.take,List.pairwise_cons.2 ⟨b2,h.drop⟩,λa ha b hb=>?_⟩
 rcases List.mem_cons.1 hb with rfl | hb
 ·exact b1 a ha
 ·have:=b1 a ha;have:=b2 b hb;omega
theorem zOG.start {most:Nat} (h:1≤most∧most≤64):zOG zXo most:=⟨zY0 h,by simp [zXo],List.Pairwise.nil⟩
theorem zOG.acc {σ:Stt} {most:Nat} {bs:List zN} (h:zOG σ most):zOG (zBr most σ (zA bs)) most:=by
 refine ⟨zI9 h.ok,?_,?_⟩
 all_goals
  by_cases he:zBO σ.l most σ.floor σ.gone (zA bs)=0
  ·obtain ⟨h1,h2,h3,h5,h6,h4⟩:=zMx he
   rw [h4]
   have h7:=zHl he
   have hA:zV (zAP σ.l (zA bs)).t (zAP σ.l (zA bs)).tm (zAP σ.l (zA bs)).l=0:=zP4 h7.2.2.2.2.1
   have ht:=(zYb h1).1 h7.2.2.2.2.2
   have hr:=zQv (x:=zAP σ.l (zA bs)) h.up (zDG _ _) ht.1 ht.2
   have hm:∀ x∈zBw σ.l (zAZ σ.l (zAP σ.l (zA bs)).t) (zAP σ.l (zA bs)),zV x.t x.tm x.l=0:=λx hx=>by
    rcases zFm.1 hx with rfl | hx
    ·exact hA
    ·exact h.sn x hx
   dsimp only
   unfold zGi
   split
   ·first | exact hm | exact hr
   ·first | exact λx hx=>hm x (List.mem_of_mem_drop hx) | exact hr.drop
  ·rw [zL3 he]
   first | exact h.sn | exact h.up
theorem zOG.at_ {σ:Stt} {most i:Nat} (h:zOG σ most) (hi:i<σ.l.length):zLa σ.l ((i:Nat):Int)=0∧sat σ.l ((i:Nat):Int)=σ.l.getD i default∧zV (σ.l.getD i default).t (σ.l.getD i default).tm (σ.l.getD i default).l=0∧(0<i→(σ.l.getD (i-1) default).t<(σ.l.getD i default).t∧(σ.l.getD (i-1) default).tm<(σ.l.getD i default).tm):=by
 have hg:σ.l.getD i default=σ.l[i]:=by rw [List.getD_eq_getElem?_getD,List.getElem?_eq_getElem hi];rfl
 refine ⟨if_pos ⟨by omega,by omega⟩,if_pos ⟨by omega,by omega⟩,?_,λh0=>?_⟩
 ·rw [hg];exact h.sn _ (List.getElem_mem hi)
 ·have hg':σ.l.getD (i-1) default=σ.l[i-1]:=by rw [List.getD_eq_getElem?_getD,List.getElem?_eq_getElem (by omega)];rfl
  rw [hg,hg']
  exact ⟨List.pairwise_iff_getElem.1 h.ok.srt _ _ (by omega) hi (by omega),List.pairwise_iff_getElem.1 h.up _ _ (by omega) hi (by omega)⟩
structure BR where
 v:Value
 bs:List zN
instance : Inhabited BR:=⟨⟨.slice none 0 0,[]⟩⟩
structure zHu (C D:CS):Prop where
 l:D.σ.l=C.σ.l
 floor:D.σ.floor=C.σ.floor
 gone:D.σ.gone=C.σ.gone
 n0:C.σ.n 0=D.σ.n 0
 K:C.K=D.K
 fr:D.fr=C.fr
theorem zHu.refl (C:CS):zHu C C:=⟨rfl,rfl,rfl,rfl,rfl,rfl⟩
theorem zHu.err {C D:CS} (h:zHu C D) (c:zAG) (G:zBl):zA7 c D G=zA7 c C G:=by unfold zA7;rw [h.l,h.floor,h.gone]
theorem zHu.no {C D:CS} (h:zHu C D) {c:zAG} {x:Int} {G:zBl} (hne:zA7 c D G≠0):zHu C (zBG c D x G):=by
 have hs:zBr c.keep D.σ G=⟨D.σ.l,D.σ.floor,D.σ.gone,zBH D.σ.n (zA7 c D G)⟩:=if_neg hne
 unfold zBG
 rw [if_neg hne,hs]
 refine ⟨h.l,h.floor,h.gone,?_,h.K,h.fr⟩
 rw [h.n0]
 exact (if_neg (λe=>hne e.symm)).symm
theorem zHu.arr {C D:CS} (h:zHu C D) (c:zAG) (x:Int) (G:zBl):zHu (zBG c C x G) (zBG c D x G):=by
 by_cases he:zA7 c C G=0
 ·have he2:zA7 c D G=0:=(h.err c G).trans he
  have h1:zBr c.keep C.σ G=⟨zGi C.σ.l c.keep (zAP C.σ.l G),zKu C.σ.l c.keep C.σ.floor (zAP C.σ.l G),zK8 C.σ.l c.keep C.σ.gone (zAP C.σ.l G),zBH C.σ.n 0⟩:=if_pos he
  have h2:zBr c.keep D.σ G=⟨zGi C.σ.l c.keep (zAP C.σ.l G),zKu C.σ.l c.keep C.σ.floor (zAP C.σ.l G),zK8 C.σ.l c.keep C.σ.gone (zAP C.σ.l G),zBH D.σ.n 0⟩:=by rw [show zBr c.keep D.σ G=_ from if_pos he2,h.l,h.floor,h.gone]
  have ht:zOA c D G=zOA c C G:=by unfold zOA;rw [h1,h2,h.l,h.floor,h.gone]
  unfold zBG
  rw [if_pos he,if_pos he2,ht,h1,h2,← h.K]
  refine ⟨rfl,rfl,rfl,?_,rfl,h.fr⟩
  show zBH C.σ.n 0 0=zBH D.σ.n 0 0
  unfold zBH
  rw [if_pos rfl,if_pos rfl,h.n0]
 ·have hn:zA7 c D G≠0:=by rw [h.err];exact he
  have h2:=h.no (x:=x) hn
  have hs:zBr c.keep C.σ G=⟨C.σ.l,C.σ.floor,C.σ.gone,zBH C.σ.n (zA7 c C G)⟩:=if_neg he
  have h3:(zBG c C x G).σ.n 0=C.σ.n 0:=by
   show (zBr c.keep C.σ G).n 0=_
   rw [hs];exact if_neg (λe=>he e.symm)
  have h4:(zBG c C x G).K=C.K:=if_neg he
  have h5:(zBG c C x G).σ.l=C.σ.l∧(zBG c C x G).σ.floor=C.σ.floor∧(zBG c C x G).σ.gone=C.σ.gone:=by
   show (zBr c.keep C.σ G).l=_∧(zBr c.keep C.σ G).floor=_∧(zBr c.keep C.σ G).gone=_
   rw [hs];exact ⟨rfl,rfl,rfl⟩
  exact ⟨h2.l.trans h5.1.symm,h2.floor.trans h5.2.1.symm,h2.gone.trans h5.2.2.symm,h3.trans h2.n0,h4.trans h2.K,h2.fr⟩
theorem zHu.frm {C D:CS} (h:zHu C D) (c:zAG) (x:Int):zHu (zQd c C x) (zQd c D x) :=
 ⟨h.l,h.floor,h.gone,h.n0,by show zJl c C.K x=zJl c D.K x;rw [h.K],by show D.fr+1=C.fr+1;rw [h.fr]⟩
theorem zHu.do_ {C D:CS} (h:zHu C D) (c:zAG) (e:EvR):zHu (cDo c C e) (cDo c D e):=by
 unfold cDo
 split
 ·exact h.arr c _ _
 ·split
  ·exact h.frm c _
  ·exact h
theorem zHu.doE {C D:CS} (h:zHu C D) (c:zAG) (e:EvR):zLw c D e=zLw c C e:=by unfold zLw;rw [h.err]
theorem zHu.doS {C D:CS} (h:zHu C D) (c:zAG) (e:EvR):zGY c D e=zGY c C e:=by unfold zGY zCW;rw [h.K,h.l]
theorem zch {c:zAG} {C:CS} {G:zBl} (h:((G.e:Nat):Int)≠0):zA7 c C G≠0:=by
 unfold zA7 zBO
 rw [if_pos (by omega)]
 omega
theorem zd0 {a:Nat} (h:a≠0):((((a:Nat):Int))==0)=false:=by rw [beq_eq_false_iff_ne];omega
end Go.Sx
