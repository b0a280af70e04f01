import Derived.Test.YtljpfgacpofkpaaGreatQSxBasB
import Derived.ArgAppend
import Derived.Test.YtljpfgacpofkpaaGreatQG7
import Derived.Test.YtljpfgacpofkpaaGreatQSxStos
import Derived.Test.YtljpfgacpofkpaaGreatQSxGrams
import Derived.Test.YtljpfgacpofkpaaGreatQSxDel
import Derived.Test.YtljpfgacpofkpaaGreatQSxMap
set_option linter.unusedVariables false
set_option linter.unusedSimpArgs false
namespace Go.Sx
open Go.RowKit
variable {P : Program} {ops : Array Oper} {Q : Exit → Act → World → Prop} {rest : List Oper} {n : Nat} {F : List (Nat × Value)} {w0 : World} {S : List Nat} {M : List HA} {a : Act} {w : World}
variable {d : Nat} {ty : TypeId} {pos : String} {af : Array Edge}
def zMH (v:Value) (e:TypeId) (xs:List Value) (w:World):Prop:=(v = .slice none 0 0∧xs=[]) ∨
 ∃ g o cap cur,v = .slice (some ⟨g,o,none⟩) xs.length cap∧w.heap[g]? = some (.cells cur e (0,0))∧xs.length≤cap∧cap≤maxLen∧o+cap≤cur.size∧(cur.toList.drop o).take xs.length=xs
def rwo (v:Value) (e:TypeId) (xs:List Value):HA where
 foot:=v.ownBlock.toList
 p w:=zMH v e xs w
 loc w w' h hp:=by
  rcases hp with hn | ⟨g,o,cap,cur,rfl,hg,rest⟩
  ·exact .inl hn
  ·refine .inr ⟨g,o,cap,cur,rfl,?_,rest⟩
   rw [h g (by simp [Value.ownBlock])]
   exact hg
 lt w h k hk:=by
  rcases h with ⟨rfl,_⟩ | ⟨g,o,cap,cur,rfl,hg,_⟩
  ·simp [Value.ownBlock] at hk
  ·have:k=g:=by simpa [Value.ownBlock] using hk
   subst this
   exact (Array.getElem?_eq_some_iff.1 hg).1
theorem zF0 (g o j:Nat):(⟨g,o,none⟩ : Addr).add j=⟨g,o+j,none⟩:=by unfold Addr.add;split<;>simp_all
theorem zON {w:World} {g o:Nat} {cur:Array Value} {e:TypeId} {fr:Nat×Nat} (hg:w.heap[g]? = some (.cells cur e fr)) (j:Nat):w.cell? ⟨g,j,none⟩=cur[j]?:=by
 simp [World.cell?,hg]
theorem zWY {v:Value} {e:TypeId} {xs:List Value} (h:zMH v e xs w):Rd w [] v 1 xs.length xs:=by
 rcases h with ⟨rfl,rfl⟩ | ⟨g,o,cap,cur,rfl,hg,h1,h2,h3,h4⟩
 ·exact zQu w [] 1
 ·refine ⟨⟨_,cap,rfl,h1,h2⟩,by simp,λ_=>⟨_,cap,rfl,by simp,(Array.getElem?_eq_some_iff.1 hg).1,λj u hu=>?_⟩⟩
  rw [zF0,zON (o:=o) hg]
  have hj:j<xs.length:=(List.getElem?_eq_some_iff.1 hu).1
  rw [← h4,List.getElem?_take,if_pos hj,List.getElem?_drop,Array.getElem?_toList] at hu
  exact hu
theorem zNs {v x:Value} {e:TypeId} {xs:List Value} (h:zMH v e (x::xs) w):zMH (zFt v 1 1 (xs.length+1)) e xs w∧(zFt v 1 1 (xs.length+1)).ownBlock=v.ownBlock:=by
 rcases h with ⟨_,h⟩ | ⟨g,o,cap,cur,rfl,hg,h1,h2,h3,h4⟩
 ·cases h
 ·simp only [List.length_cons] at h1 h4 ⊢
  by_cases hc:cap=1
  ·subst hc
   have h0:xs=[]:=List.eq_nil_of_length_eq_zero (by omega)
   subst h0
   refine ⟨.inr ⟨g,o,0,cur,by simp [zFt],hg,by simp,by simp [maxLen],by omega,by simp⟩,by simp [zFt,Value.ownBlock]⟩
  ·refine ⟨.inr ⟨g,o+1,cap-1,cur,by simp [zFt,hc,zF0],hg,by omega,by omega,by omega,?_⟩,by simp [zFt,hc,Value.ownBlock,zF0]⟩
   have h5:=congrArg (List.drop 1) h4
   rw [List.drop_take,List.drop_drop] at h5
   simpa using h5
theorem zOV {v x:Value} {e:TypeId} {xs:List Value} (h:zMH v e (xs++[x]) w):zMH (zFt v 1 0 xs.length) e xs w∧(zFt v 1 0 xs.length).ownBlock=v.ownBlock:=by
 rcases h with ⟨_,h⟩ | ⟨g,o,cap,cur,rfl,hg,h1,h2,h3,h4⟩
 ·simp at h
 ·simp only [List.length_append,List.length_singleton] at h1 h4
  refine ⟨.inr ⟨g,o,cap,cur,by simp [zFt,show ¬ cap=0 by omega,zF0],hg,by omega,h2,h3,?_⟩,by simp [zFt,show ¬ cap=0 by omega,Value.ownBlock,zF0]⟩
  have h5:=congrArg (List.take xs.length) h4
  rw [List.take_take,Nat.min_eq_left (by omega)] at h5
  simpa using h5
theorem zHy {v v':Value} {e:TypeId} {xs xs':List Value} (h:zMH v' e xs' w) (hb:v'.ownBlock=v.ownBlock):Mem w (zN [rwo v e xs]) [rwo v' e xs'] w:=by
 refine ⟨Chg.refl _ _,?_,by cases hv:v'.ownBlock<;>simp [zN,rwo,hv],λk hk=>.inl (by simpa [zN,rwo,hb] using hk)⟩
 intro y hy
 simp only [List.mem_singleton] at hy
 subst hy
 exact h
theorem St.rwoInit {v x:Value} {e:TypeId} {xs:List Value} {M':List HA} (hs:St n F w0 S M a w) (hb:Del M (rwo v e (xs++[x])) M'):St n F w0 S (rwo (zFt v 1 0 xs.length) e xs::M') a w :=
 hs.frame (.c hb .n) (zHy (zOV (hs.mem.del hb)).1 (zOV (hs.mem.del hb)).2)
theorem zSb {v:Value} {e:TypeId} {b:Nat} {xs:List Value} (h:w.ownsRow b e 1 v xs.length xs):zMH v e xs w:=by
 rcases h.2 with ⟨rfl,h0⟩ | ⟨g,cap,cur,rfl,_,hg,h1,h2,h3,h4⟩
 · exact .inl ⟨rfl,List.eq_nil_of_length_eq_zero h0⟩
 · exact .inr ⟨g,0,cap,cur,rfl,hg,h1,h2,by omega,by simpa using h4⟩
theorem zVy {L xs:List Value} {u:Value} (h:L.take xs.length=xs) (hl:xs.length<L.length):(L.set xs.length u).take (xs.length+1)=xs++[u]:=by
 conv=>rhs;rw [← h]
 generalize xs.length=n at *
 rw [List.take_add_one,List.getElem?_set_self hl,List.take_set_of_le (Nat.le_refl _)]
 rfl
theorem zWH {t ty e : TypeId} {i : TypeInfo} {z u : Value} {bytes : Nat} (ht : P.underlying t = some (.slice e)) (hi : P.info? e = some i) (hz : i.zero = some z) (hsize : i.size = 1) (hby : i.bytes = bytes) (hzs : z.cells.size = 1)
   {v:Value} {xs:List Value} (h:zMH v e xs w) {ad:Addr} {c:Nat} (hnews:∀ j x,[u][j]? = some x→w.cell? (ad.add j)=some x) (h1:u.oneCell'=true)
   (h63:xs.length+1≤maxLen) (hbytes:(xs.length+1)*bytes≤140737488355328) :
   ∃ v' w',(Builtin.append_ #[t,t] ty #[v,.slice (some ad) 1 c]).run P w = .ok v' w'∧zMH v' e (xs++[u]) w'∧w.grownBy w' v.ownBlock∧(v'.ownBlock=v.ownBlock∨∃ b,v'.ownBlock=some b∧w.heap.size≤b):=by
 have h1':∀ x∈[u],x.oneCell'=true:=by intro x hx;rw [List.mem_singleton] at hx;rw [hx];exact h1
 have hl:(xs++[u]).length=xs.length+1:=by simp
 rcases h with ⟨rfl,rfl⟩ | ⟨g,o,cap,cur,rfl,hg,a1,a2,a3,a4⟩
 · obtain ⟨v',w',hr,h2,h3,_,h5⟩:=run_append_own_at (P:=P) w 0 t ty e i z 1 bytes ht hi hz hsize hby hzs (by decide) _ 0 [] (World.ownsRow_nil w 0 e 1) ad 1 c [u] rfl hnews h1' h63 hbytes (Nat.zero_le _)
   exact ⟨v',w',hr,zSb (by simpa using h2),h3,h5.imp id λh=>⟨_,h,Nat.le_refl _⟩⟩
 · by_cases hroom:xs.length+1≤cap
   · have hr := run_append_room_cells (P := P) w t ty e i ht hi g o xs.length cap ad 1 c [u] (by simp [hsize]) hnews h1' hroom
       (λj hj=>by
         have:j=0:=by simpa using hj
         subst this
         rw [zON (o:=o) hg,hsize,Nat.mul_one,Nat.add_zero,Array.getElem?_eq_getElem (by omega)];rfl)
       (λj hj=>by simp [World.frozen?,hg])
     rw [hsize,Nat.mul_one] at hr
     refine ⟨_,_,hr,.inr ⟨g,o,cap,cur.setIfInBounds (o+xs.length) u,by rw [hl],?_,by omega,a2,by simpa using a3,?_⟩,⟨rfl,rfl,rfl,by simp [World.setCells,World.setCell],λk hk hS=>?_⟩,.inl rfl⟩
     · simp [World.setCells,World.setCell,Array.getElem?_modify,hg]
     · rw [hl,Array.toList_setIfInBounds,List.drop_set,if_neg (by omega),show o+xs.length-o=xs.length by omega]
       exact zVy a4 (by simp;omega)
     · have:¬ g=k:=λe=>hS (by simp [Value.ownBlock,e])
       simp [World.setCells,World.setCell,Array.getElem?_modify,this]
   · obtain ⟨v', w', hr, h2, h3⟩ := run_append_arg_grows (P := P) w t ty e i z 1 bytes ht hi hz hsize hby hzs (by decide) ⟨g, o, none⟩ xs.length cap xs (by simp)
       (λj x hx=>(zWY (.inr ⟨g,o,cap,cur,rfl,hg,a1,a2,a3,a4⟩)).at_ (by have:=(List.getElem?_eq_some_iff.1 hx).1;omega) |> λ⟨ad',c',e',_,_,hcell⟩=>by injection e' with e1 _ _;injection e1 with e1;subst e1;exact hcell j x hx)
       ad 1 c [u] rfl hnews (by omega) h63 hbytes
     have hv:∃ b,v'.ownBlock=some b∧w.heap.size≤b:=by
       rcases h2.2 with ⟨_,h0⟩ | ⟨g',cap',cur',rfl,hb,hg',_⟩
       · omega
       · exact ⟨g',rfl,hb⟩
     exact ⟨v',w',hr,zSb (by simpa using h2),⟨h3.os,h3.tape,h3.output,h3.size,λk hk _=>h3.block k hk (by simp)⟩,.inr hv⟩
theorem zUP {w':World} {v v':Value} {e:TypeId} {xs xs':List Value} (hg:w.grownBy w' v.ownBlock) (ho:zMH v' e xs' w') (hat:v'.ownBlock=v.ownBlock∨∃ b,v'.ownBlock=some b∧w.heap.size≤b):Mem w (zN [rwo v e xs]) [rwo v' e xs'] w':=by
 refine ⟨⟨hg.os,hg.tape,hg.output,hg.size,λk hk hS=>hg.block k hk (λe=>hS (by simp [zN,rwo,← e]))⟩,?_,by cases hv:v'.ownBlock<;>simp [zN,rwo,hv],λk hk=>?_⟩
 ·intro y hy
  simp only [List.mem_singleton] at hy
  subst hy
  exact ho
 ·simp only [zN,rwo,List.flatMap_cons,List.flatMap_nil,List.append_nil,Option.mem_toList] at hk ⊢
  rcases hat with h | ⟨b,h,hb⟩
  ·left;rw [← h];exact hk
  ·right
   have h2:some k=some b:=hk.symm.trans h
   injection h2 with h2
   omega
theorem zKY {x y : Operand} {v u uv z : Value} {t e : TypeId} {bytes : Nat} {xs : List Value} {T : List Nat} {M' : List HA} {i : TypeInfo}
   (hs:St n F w0 S M a w) (hx:evo F x=some v) (hy:evo F y=some uv) (hb:Del M (rwo v e xs) M') (hr:Rd w T uv 1 1 [u]) (h1:u.oneCell'=true)
   (ht:P.underlying t=some (.slice e)) (hi:P.info? e=some i) (hz:i.zero=some z) (hsize:i.size=1) (hby:i.bytes=bytes) (hzs:z.cells.size=1)
   (hbytes:(xs.length+1)*bytes≤140737488355328) (h63:xs.length+1≤maxLen) (hd:Nat.blt d n=true)
   (k:∀ v' a w,St n ((d,v')::F) w0 S (rwo v' e (xs++[u])::M') a w→wpList P ops Q rest a w) :
   wpList P ops Q (⟨some d,.call { callee:=.builtin .append,args:=#[x,y],argTypes:=#[t,t] },ty,pos,af,none⟩::rest) a w:=by
 obtain ⟨ad,c,rfl,_,_,hcell⟩:=hr.at_ (by decide)
 obtain ⟨v',w',hrun,h2,h3,h5⟩:=zWH (P:=P) (w:=w) (ty:=ty) (c:=c) ht hi hz hsize hby hzs (hs.mem.del hb) hcell h1 h63 hbytes
 refine zDn rfl rfl (v:=v') (w':=w') ?_ (k v' _ _ ((hs.frame (.c hb .n) (zUP h3 h2 h5)).put hd v'))
 simp [execOp,resolve,invoke,builtin,hs.ev hx,hs.ev hy,hrun]
theorem St.rerwo {v:Value} {e:TypeId} {xs xs':List Value} {M':List HA} (hs:St n F w0 S M a w) (hb:Del M (rwo v e xs) M') (hx:xs=xs'):St n F w0 S (rwo v e xs'::M') a w :=
 hs.frame (.c hb .n) (zHy (by rw [← hx];exact hs.mem.del hb) rfl)
def iV (l:List Int):List Value:=l.map (Value.int .i64)
theorem zEX (l:List Int):(iV l).length=l.length:=by simp [iV]
theorem zJX (l:List Int) (j:Nat) (h:j<l.length):(iV l)[j]? = some (.int .i64 (l.getD j 0)):=by
 simp [iV,List.getD_eq_getElem?_getD,List.getElem?_eq_getElem h]
theorem zJg (l:List Int) (x:Int):iV l++[.int .i64 x]=iV (l++[x]):=by simp [iV]
theorem zRw {l:List Int} (h:((l.length:Nat):Int)=0):Value.tuple #[.int .i64 0,.bool false]=Value.tuple #[.int .i64 (l.getD 0 0),.bool (decide (0<l.length))]:=by
 rw [show l=[] from List.eq_nil_of_length_eq_zero (by omega)];rfl
theorem zPk {l:List Int} (h:¬ ((l.length:Nat):Int)=0):Value.tuple #[.int .i64 (l.getD 0 0),.bool true]=Value.tuple #[.int .i64 (l.getD 0 0),.bool (decide (0<l.length))]:=by
 rw [show decide (0<l.length)=true from decide_eq_true (by omega)]
def zDI (v:Value) (l:List Int) (x:Int):Value:=if l.getD 0 0=x then zFt v 1 1 l.length else v
def zJr (l:List Int) (x:Int):List Int:=if l.getD 0 0=x then l.drop 1 else l
theorem zUA {v:Value} {l:List Int} {x:Int} (h:l.getD 0 0=x):zFt v 1 1 l.length=zDI v l x:=(if_pos h).symm
theorem zT3 {v:Value} {l:List Int} {x:Int} (h:¬ l.getD 0 0=x):v=zDI v l x:=(if_neg h).symm
theorem zNk {v:Value} {e:TypeId} {l:List Int} (x:Int) (hl:0<l.length) (h:zMH v e (iV l) w):zMH (zDI v l x) e (iV (zJr l x)) w∧(zDI v l x).ownBlock=v.ownBlock:=by
 unfold zDI zJr
 by_cases hx:l.getD 0 0=x
 ·rw [if_pos hx,if_pos hx]
  cases l with
  | nil=>cases hl
  | cons y t =>
   have:=zNs (v:=v) (x:=.int .i64 y) (xs:=iV t) (e:=e) (by simpa [iV] using h)
   rw [zEX] at this
   exact this
 ·rw [if_neg hx,if_neg hx]
  exact ⟨h,rfl⟩
theorem St.rwoDrop {v:Value} {e:TypeId} {l:List Int} {M':List HA} (hs:St n F w0 S M a w) (hb:Del M (rwo v e (iV l)) M') (x:Int) (hl:0<l.length):St n F w0 S (rwo (zDI v l x) e (iV (zJr l x))::M') a w :=
 hs.frame (.c hb .n) (zHy (zNk x hl (hs.mem.del hb)).1 (zNk x hl (hs.mem.del hb)).2)
def zJx (f:Int→Int→Bool) (l:List Int) (x:Int):Nat→Nat
 | 0=>0
 | k+1=>if f (l.getD k 0) x then zJx f l x k else k+1
def zDz (f:Int→Int→Bool) (l:List Int) (x:Int):List Int:=l.take (zJx f l x l.length)++[x]
theorem zRp {f:Int→Int→Bool} {l:List Int} {x:Int} {k m:Nat} (h:zJx f l x k=m) (h0:0<k) (hf:f (l.getD (k-1) 0) x=true):zJx f l x (k-1)=m:=by
 obtain ⟨j,rfl⟩ : ∃ j,k=j+1:=⟨k-1,by omega⟩
 rw [zJx,show j+1-1=j from rfl] at *
 rw [if_pos hf] at h
 exact h
theorem zJc {f:Int→Int→Bool} {l:List Int} {x:Int} {k m:Nat} (h:zJx f l x k=m) (hf:k=0∨f (l.getD (k-1) 0) x=false):k=m:=by
 rcases Nat.eq_zero_or_pos k with h0 | h0
 ·subst h0;exact h
 ·obtain ⟨j,rfl⟩ : ∃ j,k=j+1:=⟨k-1,by omega⟩
  rcases hf with hf | hf
  ·omega
  ·rw [show j+1-1=j from rfl] at hf
   rw [zJx,if_neg (by rw [hf];decide)] at h
   exact h
theorem St.rwoPop {v:Value} {e:TypeId} {l:List Int} {k:Nat} {M':List HA} (hs:St n F w0 S M a w) (hb:Del M (rwo v e (iV (l.take k))) M') (h0:0<k) (hk:k≤l.length):St n F w0 S (rwo (zFt v 1 0 (k-1)) e (iV (l.take (k-1)))::M') a w:=by
 have e1:iV (l.take k)=iV (l.take (k-1))++[.int .i64 (l.getD (k-1) 0)]:=by
  rw [zJg]
  congr 1
  rw [List.getD_eq_getElem?_getD,List.getElem?_eq_getElem (by omega)]
  conv=>lhs;rw [show k=(k-1)+1 by omega]
  rw [List.take_add_one,List.getElem?_eq_getElem (by omega)]
  rfl
 rw [e1] at hb
 have h2:=hs.rwoInit hb
 rw [zEX,List.length_take,Nat.min_eq_left (by omega)] at h2
 exact h2
theorem zA4 {v:Value} {e:TypeId} {l:List Int} {m:Nat} (h:zMH v e (iV l) w) (hn:l.length=m):Rd w [] v 1 m (iV l):=by
 have:=zWY h
 rw [zEX,hn] at this
 exact this
theorem zXE (l:List Int) (k j:Nat) (hj:j<k) (hk:k≤l.length):(iV (l.take k))[j]? = some (.int .i64 (l.getD j 0)):=by
 rw [zJX _ j (by rw [List.length_take];omega)]
 simp only [List.getD_eq_getElem?_getD,List.getElem?_take,if_pos hj]
theorem zXw {v:Value} {e:TypeId} {xs:List Value} (h:(rwo v e xs).p w):Mem w (zN [rwo v e xs]) [rwo v e xs] w:=zHy h rfl
def zVP (c:Int) (l:List Int) (x:Int):List Int:=(if ((l.length:Nat):Int)=c then l.drop 1 else l)++[x]
def wD (c:Int) (l q:List Int):List Int:=if ((l.length:Nat):Int)=c then zJr q (l.getD 0 0) else q
theorem zMB (q:List Int) (x:Int):(zJr q x).length≤q.length:=by unfold zJr;split<;>simp
theorem zLD {v:Value} {m:Nat} (l:List Int) (x:Int) (h:zDj v m):∃ k,zDj (zDI v l x) k:=by
 obtain ⟨A,c,rfl⟩:=h
 unfold zDI
 split
 · exact ⟨_,_,_,rfl⟩
 · exact ⟨_,_,_,rfl⟩
theorem zWf {v:Value} {e:TypeId} {l:List Int} (hl:0<l.length) (h:zMH v e (iV l) w):zMH (zFt v 1 1 l.length) e (iV (l.drop 1)) w∧(zFt v 1 1 l.length).ownBlock=v.ownBlock:=by
 cases l with
 | nil=>cases hl
 | cons y t =>
  have:=zNs (v:=v) (x:=.int .i64 y) (xs:=iV t) (e:=e) (by simpa [iV] using h)
  rw [zEX] at this
  exact this
theorem St.rwoTl {v:Value} {e:TypeId} {l:List Int} {M':List HA} (hs:St n F w0 S M a w) (hb:Del M (rwo v e (iV l)) M') (hl:0<l.length):St n F w0 S (rwo (zFt v 1 1 l.length) e (iV (l.drop 1))::M') a w :=
 hs.frame (.c hb .n) (zHy (zWf hl (hs.mem.del hb)).1 (zWf hl (hs.mem.del hb)).2)
structure KS where
 l1:List Int
 l2:List Int
 l3:List Int
 s:Int
 t:Int
 b:Int
 j:Int
 now:Int
abbrev gtI : Int→Int→Bool:=λp q=>decide (q<p)
abbrev ltI : Int→Int→Bool:=λp q=>decide (p<q)
def KS.off (K:KS):Int:=K.l2.getD 0 0
def zYh (c:zAS) (K:KS) (x y:Int):KS :=
 let d:=zBV x y
 let m2:=zDz gtI (wD c.window K.l1 K.l2) d
 let j:=zEc K.j (zBV d (m2.getD 0 0))
 ⟨zVP c.window K.l1 d,m2,zDz ltI (wD c.window K.l1 K.l3) d,K.s,K.t,K.b,j,zTS c K.now j⟩
def zR1 (K:KS) (x:Int):Int:=zBV (zBV x (K.l2.getD 0 0)) K.now
def zLF (c:zAS) (K:KS) (x:Int):KS:=if 0<K.l2.length then { K with s:=sS c.num c.den K.s K.t K.b x (zR1 K x),t:=sT K.t K.b x,b:=1 } else K
def kTm (c:zAS) (K:KS) (x:Int):Int:=if 0<K.l2.length then sS c.num c.den K.s K.t K.b x (zR1 K x) else 0
def K0 (c:zAS):KS:=⟨[],[],[],0,0,0,0,zIv c 0⟩
structure KS.ok (c:zAS) (K:KS):Prop where
 h1:((K.l1.length:Nat):Int)≤c.window
 s2:K.l2.Sublist K.l1
 s3:K.l3.Sublist K.l1
 h0:0<K.l1.length→0<K.l2.length∧0<K.l3.length
 r:∀ x∈K.l1,R64 x
 s:R64 K.s
 t:R64 K.t
 j:R64 K.j
 now:c.least≤K.now∧K.now≤c.most
theorem zbF {c:Int} {l q:List Int} (h:q.Sublist l):(wD c l q).Sublist (if ((l.length:Nat):Int)=c then l.drop 1 else l):=by
 unfold wD
 split
 ·unfold zJr
  cases l with
  | nil=>have:=List.sublist_nil.1 h;subst this;simp
  | cons y l =>
   cases q with
   | nil=>simp
   | cons z q =>
    show List.Sublist (if (z::q).getD 0 0=(y::l).getD 0 0 then (z::q).drop 1 else z::q) l
    by_cases hz:z=y
    ·rw [if_pos (by simpa using hz)]
     subst hz
     simpa using h
    ·rw [if_neg (by simpa using hz)]
     cases h with
     | cons _ h=>exact h
     | cons_cons _ h=>exact absurd rfl hz
 ·exact h
theorem zPx {f:Int→Int→Bool} {q l:List Int} {x:Int} (h:q.Sublist l):(zDz f q x).Sublist (l++[x]):=by
 unfold zDz
 exact List.Sublist.append ((List.take_sublist _ _).trans h) (List.Sublist.refl _)
theorem zL5 (f:Int→Int→Bool) (q:List Int) (x:Int):0<(zDz f q x).length:=by unfold zDz;simp
theorem zNi {c:Int} {l:List Int} {x y:Int} (h:y∈zVP c l x):y∈l∨y=x:=by
 unfold zVP at h
 rcases List.mem_append.1 h with h | h
 ·left
  split at h
  ·exact List.mem_of_mem_drop h
  ·exact h
 ·right;simpa using h
theorem zKK {l:List Int} (h:∀ x∈l,R64 x):R64 (l.getD 0 0):=by
 cases l with
 | nil=>show R64 0;omega
 | cons x l=>exact h x (by simp)
theorem KS.ok.r2 {c:zAS} {K:KS} (h:K.ok c):∀ x∈K.l2,R64 x:=λx hx=>h.r x (h.s2.subset hx)
theorem zNE {c:zAS} {K:KS} (h:K.ok c) (x:Int) (f:Int→Int→Bool) {q:List Int} (hq:q.Sublist K.l1):(zDz f (wD c.window K.l1 q) x).Sublist (zVP c.window K.l1 x):=zPx (zbF hq)
theorem zZR {c:zAS} {K:KS} (h:K.ok c) {d:Int} (hd:R64 d):R64 ((zDz gtI (wD c.window K.l1 K.l2) d).getD 0 0):=by
 refine zKK λy hy=>?_
 rcases zNi ((zNE h d gtI h.s2).subset hy) with h1 | h1
 · exact h.r y h1
 · rw [h1];exact hd
theorem zR2 {x y:Int} (hx:R64 x) (hy:R64 y):R64 (zEc x y):=by
 have:=zQX hx.2 hy.2
 omega
theorem zYP {c:zAS} {K:KS} {x y:Int} (hk:zCb c=0) (h:K.ok c):(zYh c K x y).ok c:=by
 obtain ⟨⟨_,_,hw,_⟩,hd,_⟩:=zFh hk
 have hdr:R64 (zBV x y):=zB8 _ _
 refine ⟨?_,zNE h _ _ h.s2,zNE h _ _ h.s3,λ_=>⟨zL5 _ _ _,zL5 _ _ _⟩,λz hz=>?_,h.s,h.t,?_,?_⟩
 ·show (((zVP c.window K.l1 (zBV x y)).length:Nat):Int)≤c.window
  unfold zVP
  have:=h.h1
  split
  ·simp only [List.length_append,List.length_drop,List.length_singleton];omega
  ·simp only [List.length_append,List.length_singleton];omega
 ·rcases zNi hz with h1 | h1
  ·exact h.r z h1
  ·rw [h1];exact hdr
 ·exact zR2 h.j (zB8 _ _)
 ·exact zTp hd h.now
theorem zcu {b x y:Int} (hx:R64 x) (hy:R64 y):R64 (sP b x y):=by unfold sP;split<;>assumption
theorem zSQ {c:zAS} {K:KS} {x:Int} (hx:R64 x) (h:K.ok c):(zLF c K x).ok c:=by
 unfold zLF
 split
 ·have hw:R64 (zR1 K x):=zB8 _ _
  have h1:=zcu (b:=K.b) hw h.s
  have h2:=zcu (b:=K.b) hx h.t
  refine ⟨h.h1,h.s2,h.s3,h.h0,h.r,?_,?_,h.j,h.now⟩
  ·show R64 (sS _ _ _ _ _ _ _)
   unfold sS sS1
   have:=zKI (sP K.b (zR1 K x) K.s) (zED (zBV (max x (sP K.b x K.t)) (sP K.b x K.t)) c.num c.den)
   omega
  ·show R64 (sT _ _ _)
   unfold sT
   omega
 ·exact h
theorem zcU {c:zAS} (hk:zCb c=0):(K0 c).ok c:=by
 obtain ⟨⟨_,_,hw,_⟩,hd,_⟩:=zFh hk
 exact ⟨by show (0:Int)≤_;omega,List.Sublist.refl _,List.Sublist.refl _,λh=>absurd h (Nat.lt_irrefl 0),λx hx=>(by cases hx),by show R64 0;omega,by show R64 0;omega,by show R64 0;omega,zKF hd⟩
theorem St.addO {n:Nat} {F:List (Nat×Value)} {w0 w:World} {S:List Nat} {M:List HA} {a:Act} (hs:St n F w0 S M a w) (e:TypeId):St n F w0 S (rwo (.slice none 0 0) e (iV [])::M) a w:=by
 refine hs.frame (N:=[rwo (.slice none 0 0) e (iV [])]) .n ⟨Chg.refl _ _,?_,by simp [zN,rwo,Value.ownBlock],by simp [zN,rwo,Value.ownBlock]⟩
 intro h hh
 simp only [List.mem_singleton] at hh
 subst hh
 exact .inl ⟨rfl,rfl⟩
structure KP where
 k:Nat
 wg:Nat
 sg:Nat
 jg:Nat
 dg:Nat
 v1:Value
 v2:Value
 v3:Value
 cn:Int
 ch:Int
def KP.on (p:KP) (k:Nat):KP:={ p with k:=k }
def Wfs (l:List zAD):Prop:=∀ s∈l,∀ e∈s.l,e.wf
theorem zNN {r:zY} (h:r.wf):(zE8 r).wf:=⟨h.id,h.p0,h.p1,h.p2,h.v0,h.v1,h.v2⟩
theorem zMR {a:zS} {r:zY} (ha:a.wf) (h:r.wf):(zU a r).1.wf:=by
 unfold zU
 split
 ·exact zMS
 ·split
  ·exact zMS
  ·split
   ·exact ⟨ha.id,h.p0,h.p1,h.p2,h.v0,h.v1,h.v2⟩
   ·exact ⟨ha.id,zBx _,zBx _,zBx _,zBx _,zBx _,zBx _⟩
theorem zJt {x:zS} {l:List zS} (hx:x.wf) (h:∀ e∈l,e.wf):∀ e∈x::l,e.wf:=by
 intro e he;rcases List.mem_cons.1 he with h1 | h1
 · rw [h1];exact hx
 · exact h e h1
theorem za2 : ∀ (n:Nat) (was:List zS) (l:List zY),was.length+l.length≤n→(∀ e∈was,e.wf)→(∀ r∈l,r.wf)→∀ out,apl was l=some out→∀ e∈out,e.wf:=by
 intro n
 induction n with
 | zero =>
  intro was l hn hw hl out h
  cases l with
  | nil=>rw [zEh] at h;cases h;exact hw
  | cons r l=>simp at hn
 | succ n ih =>
  intro was l hn hw hl out h
  cases l with
  | nil=>rw [zEh] at h;cases h;exact hw
  | cons r l =>
   have hr:=hl r (by simp)
   have hl2:∀ r∈l,r.wf:=λx hx=>hl x (by simp [hx])
   cases was with
   | nil =>
    unfold apl at h
    split at h
    ·rw [Option.map_eq_some_iff] at h
     obtain ⟨o,h1,rfl⟩:=h
     exact zJt (zNN hr) (ih [] l (by simp at hn ⊢;omega) hw hl2 o h1)
    ·cases h
   | cons x was =>
    have hx:=hw x (by simp)
    have hw2:∀ e∈was,e.wf:=λe he=>hw e (by simp [he])
    simp only [List.length_cons] at hn
    unfold apl at h
    split at h
    ·rw [Option.map_eq_some_iff] at h
     obtain ⟨o,h1,rfl⟩:=h
     exact zJt hx (ih was (r::l) (by simp only [List.length_cons];omega) hw2 hl o h1)
    ·split at h
     ·split at h
      ·cases h
      ·split at h
       ·exact ih was l (by omega) hw2 hl2 out h
       ·rw [Option.map_eq_some_iff] at h
        obtain ⟨o,h1,rfl⟩:=h
        exact zJt (zMR hx hr) (ih was l (by omega) hw2 hl2 o h1)
     ·split at h
      ·rw [Option.map_eq_some_iff] at h
       obtain ⟨o,h1,rfl⟩:=h
       exact zJt (zNN hr) (ih (x::was) l (by simp only [List.length_cons];omega) hw hl2 o h1)
      ·cases h
theorem zcP {at_ atm:Int} {a:List zS} {gt gtm gb:Int} {rl:List zY} (ha:∀ e∈a,e.wf) (hr:∀ r∈rl,r.wf):∀ e∈(aS at_ atm a gt gtm gb rl).l,e.wf:=by
 unfold aS
 split
 ·intro e he
  cases ho:apl (zGr gb a) rl with
  | none=>rw [ho] at he;simp at he
  | some o =>
   rw [ho] at he
   refine za2 _ _ _ (Nat.le_refl _) (λe he=>?_) hr o ho e he
   unfold zGr at he
   split at he
   ·exact ha e he
   ·cases he
 ·intro e he;cases he
theorem zYv {l:List zAD} (h:Wfs l) (k:Int):∀ e∈(zCM l k).l,e.wf:=by
 unfold zCM
 split
 ·rename_i hk
  rw [List.getD_eq_getElem?_getD]
  cases ho:l[zAz l k]? with
  | none=>intro e he;cases he
  | some s=>exact h s (List.mem_of_getElem? ho)
 ·intro e he;cases he
theorem zUi {l:List zAD} {most:Nat} {x:zAD} (h:Wfs l) (hx:∀ e∈x.l,e.wf):Wfs (zMO l most x):=by
 have hk:Wfs (zCN l (zAz l x.t) x):=by
  intro s hs
  unfold zCN at hs
  rcases List.mem_append.1 hs with h1 | h1
  ·exact h s (List.mem_of_mem_take h1)
  ·rcases List.mem_cons.1 h1 with h2 | h2
   ·rw [h2];exact hx
   ·exact h s (List.mem_of_mem_drop h2)
 unfold zMO
 split
 ·exact hk
 ·exact λs hs=>hk s (List.mem_of_mem_drop hs)
theorem zYm {most:Nat} {σ:Stt} {bs:List zQ} (h:Wfs σ.l):Wfs (zDA most σ (zA bs)).l:=by
 unfold zDA
 split
 · exact zUi h (zcP (zYv h _) (zKU bs))
 · exact h
def zWc (s:zAD):RI:=⟨s.t,s.tm,s.l,.slice none 0 0⟩
def riF (x:RI):RI:=zWc x.sn
def zB0 (c:zAS) (l:List zAD) (t:Int):List zFo×Nat:=zDf c (l.map zWc) t
theorem zcZ (L:List RI):tms (L.map riF)=tms L:=by unfold tms;rw [List.map_map];rfl
theorem zQQ : ∀ L:List RI,zEe (L.map riF)=zEe L
 | []=>rfl
 | x::L=>by
  show (if _ then _ else zEe (L.map riF))=_
  rw [zQQ L];rfl
theorem zQF (L:List RI) (i:Nat):(L.map riF).getD i default=riF (L.getD i default):=by
 rw [List.getD_eq_getElem?_getD,List.getD_eq_getElem?_getD,List.getElem?_map]
 cases L[i]? <;> rfl
theorem zWN (L:List RI) (t:Int):∀ k,zIn (L.map riF) t k=zIn L t k
 | 0=>rfl
 | k+1=>by unfold zIn;rw [zWN L t k,zQF,List.length_map];rfl
theorem zXQ (L:List RI) (t:Int):zA7 (L.map riF) t=zA7 L t:=by unfold zA7;rw [zcZ,zWN,List.length_map]
theorem zQb (c:zAS) (L:List RI):zFY c (L.map riF)=zFY c L:=by unfold zFY;rw [zQQ]
theorem zQj (c:zAS) (x:RI) (t:Int):zDs c (riF x) t=zDs c x t:=by
 have h:=zQb c [x]
 unfold zDs;rw [show [riF x]=[x].map riF from rfl,h];rfl
theorem zZQ (c:zAS) (x:RI) (t:Int):zC6 c (riF x) t=zC6 c x t:=by unfold zC6;rw [zQj];rfl
theorem zSe (c:zAS) (x y:RI) (t:Int):zDT c (riF x) (riF y) t=zDT c x y t:=by
 have h:=zQb c [x,y]
 unfold zDT;rw [show [riF x,riF y]=[x,y].map riF from rfl,h];rfl
theorem zYL (c:zAS) (x y:RI) (t:Int):zDR c (riF x) (riF y) t=zDR c x y t:=by unfold zDR;rw [zSe];rfl
theorem zYz (c:zAS) (L:List RI) (t:Int):zDf c (L.map riF) t=zDf c L t:=by
 unfold zDf;rw [zQb,zXQ,zQF,zQF,zZQ,zQj,zYL,zSe]
theorem zN0 (c:zAS) (L:List RI) (t:Int):zDf c L t=zB0 c (sns L) t:=by
 unfold zB0;rw [sns,List.map_map];exact (zYz c L t).symm
structure CS where
 σ:Stt
 K:KS
 fr:Nat
structure ShR where
 ready:Bool
 time:Int
 l:List zFo
def zAS.keep (c:zAS):Nat:=c.ring.toNat
def zG1 (c:zAS) (C:CS) (G:zDQ):Nat:=zBq C.σ.l c.keep C.σ.floor C.σ.gone G
def zcA (c:zAS) (C:CS) (G:zDQ):Int:=(zCM (zDA c.keep C.σ G).l (zJb C.σ.l c.keep C.σ.floor C.σ.gone G)).tm
def zNR (c:zAS) (C:CS) (x:Int) (G:zDQ):CS:=⟨zDA c.keep C.σ G,if zG1 c C G=0 then zYh c C.K x (zcA c C G) else C.K,C.fr⟩
def zTQ (c:zAS) (C:CS) (x:Int):CS:=⟨C.σ,zLF c C.K x,C.fr+1⟩
def zB1 (c:zAS) (C:CS) (x:Int):ShR:=if 0<C.K.l2.length then ⟨true,kTm c C.K x,(zB0 c C.σ.l (kTm c C.K x)).1⟩ else ⟨false,0,[]⟩
def C0 (c:zAS):CS:=⟨zaF,K0 c,0⟩
structure CS.ok (c:zAS) (C:CS):Prop where
 k:C.K.ok c
 wf:Wfs C.σ.l
theorem zbs {c:zAS} (hk:zCb c=0):(C0 c).ok c:=⟨zcU hk,λs hs=>by cases hs⟩
theorem zNA {c:zAS} {C:CS} {x:Int} {bs:List zQ} (hk:zCb c=0) (h:C.ok c):(zNR c C x (zA bs)).ok c:=by
 refine ⟨?_,zYm h.wf⟩
 show KS.ok c (if _ then _ else _)
 split
 · exact zYP hk h.k
 · exact h.k
theorem zMu {c:zAS} {C:CS} {x:Int} (hx:R64 x) (h:C.ok c):(zTQ c C x).ok c:=⟨zSQ hx h.k,h.wf⟩
instance : Inhabited KP:=⟨⟨0,0,0,0,0,.slice none 0 0,.slice none 0 0,.slice none 0 0,0,0⟩⟩
theorem zca {c:zAS} {K:KS} {x:Int} (hx:R64 x) (h:K.ok c):R64 (kTm c K x):=by
 have h1:=(zSQ hx h).s
 unfold zLF at h1
 unfold kTm
 split at h1
 · rename_i hq;rw [if_pos hq];exact h1
 · rename_i hq;rw [if_neg hq];show R64 0;omega
theorem zYS {L:List RI} {l:List zAD} {j:Nat} {v:Value} (h:sns L=l.take j) (hj:j<l.length):sns (L++[(⟨(sat l (j:Int)).t,(sat l (j:Int)).tm,(sat l (j:Int)).l,v⟩ : RI)])=l.take (j+1):=by
 have hs:sat l (j:Int)=l[j]:=by
  unfold sat
  rw [if_pos (by omega),Int.toNat_natCast,List.getD_eq_getElem?_getD,List.getElem?_eq_getElem hj];rfl
 have h2:sns (L++[(⟨(sat l (j:Int)).t,(sat l (j:Int)).tm,(sat l (j:Int)).l,v⟩ : RI)])=sns L++[sat l (j:Int)]:=by unfold sns;rw [List.map_append];rfl
 rw [h2,h,hs,List.take_succ_eq_append_getElem hj]
theorem zWG {L:List RI} {j:Nat} (h:j<L.length):iV ((L.take j).map RI.t)++[.int .i64 (L.getD j default).t]=iV ((L.take (j+1)).map RI.t):=by
 rw [zJg,List.take_succ_eq_append_getElem h,List.map_append,List.getD_eq_getElem?_getD,List.getElem?_eq_getElem h];rfl
theorem zUM {L:List RI} {l:List zAD} (h:sns L=l):L.map RI.t=l.map zAD.t:=by subst h;unfold sns;rw [List.map_map];rfl
theorem zLo {c:zAS} (hk:zCb c=0):((c.keep:Nat):Int)=c.ring∧1≤c.keep∧c.keep≤64:=by
 obtain ⟨⟨h1,h2,_,_⟩,_⟩:=zFh hk
 unfold zAS.keep
 omega
theorem Mem.resep {w w':World} {S:List Nat} {A B:List HA} (h:Mem w S (A++B) w'):Mem w S (A++[zFy B]) w':=by
 obtain ⟨h1,h2,h3⟩:=Mem.parts h
 refine ⟨h.chg,λy hy=>?_,h3,by rw [zD7];exact h.ge⟩
 rcases List.mem_append.1 hy with e | e
 · exact h1 y e
 · rw [List.mem_singleton] at e;rw [e];exact h2
theorem Mem.wide {w w':World} {S:List Nat} {N:List HA} (h:Mem w [] N w'):Mem w S N w':=⟨⟨h.chg.os,h.chg.tape,h.chg.output,h.chg.size,λk hk _=>h.chg.block k hk (by simp)⟩,h.all,h.nd,λk hk=>(h.ge k hk).elim (λh=>by cases h) .inr⟩
theorem zbA {e:Nat} {L:List RI} {w:World} {most:Nat} (h:(rws e L).p w) (ho:Oks (sns L) most) (hw:Wfs (sns L)):∀ x∈L,x.ok w:=by
 intro x hx
 have hm:x.sn∈sns L:=List.mem_map.2 ⟨x,hx,rfl⟩
 obtain ⟨h1,h2,h3,h4,h5⟩:=ho.rng x.sn hm
 exact ⟨⟨by have:(0:Int)≤x.t:=h1;omega,by have:x.t≤4294967295:=h2;omega⟩,⟨h3,h4⟩,zC4 h (.inl hx),hw x.sn hm⟩
section
variable {P : Program} {ops : Array Oper} {Q : Exit → Act → World → Prop} {rest : List Oper} {n : Nat} {F : List (Nat × Value)} {w0 : World} {S : List Nat} {M : List HA} {a : Act} {w : World} {d : Nat} {ty : TypeId} {pos : String} {af : Array Edge}
end
theorem zNx (c:zAS) (C:CS) (x:Int) (G:zDQ) (i:Nat):(zNR c C x G).σ.n i≤C.σ.n i+1:=by
 show (zDA _ _ _).n i≤_
 unfold zDA
 split<;>(show zBc _ _ i≤_;unfold zBc;split<;>omega)
open Go.RowKit Go.ChangeShapes Go.WideShapes
variable {W : World}
theorem zb3 {c:List Value} (h:AllK W c [.i .u8]):∃ b:zQ,c=[zKw b]:=by
 obtain ⟨u,us,rfl,h1,h2⟩:=h.split
 rw [h2.none]
 cases h1 with
 | i w =>
  obtain ⟨X,hX⟩:=zIk w
  exact ⟨X,by rw [hX];rfl⟩
theorem zQn {α:Type} (f:α→Value):∀ (l:List α),(l.flatMap λx=>[f x])=l.map f
 | []=>rfl
 | a::l=>by simp [zQn f l]
def zcy (c:zAS):List Value:=[.int .i64 c.ring,.int .i64 c.window,.int .i64 c.base,.int .i64 c.gain,.int .i64 c.least,.int .i64 c.most,.int .i64 c.slack,.int .i64 c.num,.int .i64 c.den,.int .i64 c.extra,.bool c.curve]
theorem OneK.boo {v:Value} (h:OneK W v .b):∃ b:Bool,v = .bool b:=by cases h;exact ⟨_,rfl⟩
theorem zae {cs:List Value} (h:AllK W cs [.i .i64,.i .i64,.i .i64,.i .i64,.i .i64,.i .i64,.i .i64,.i .i64,.i .i64,.i .i64,.b]):∃ c:zAS,cs=zcy c:=by
 obtain ⟨_,_,rfl,h1,h⟩:=h.split
 obtain ⟨_,_,rfl,h2,h⟩:=h.split
 obtain ⟨_,_,rfl,h3,h⟩:=h.split
 obtain ⟨_,_,rfl,h4,h⟩:=h.split
 obtain ⟨_,_,rfl,h5,h⟩:=h.split
 obtain ⟨_,_,rfl,h6,h⟩:=h.split
 obtain ⟨_,_,rfl,h7,h⟩:=h.split
 obtain ⟨_,_,rfl,h8,h⟩:=h.split
 obtain ⟨_,_,rfl,h9,h⟩:=h.split
 obtain ⟨_,_,rfl,h10,h⟩:=h.split
 obtain ⟨_,_,rfl,h11,h⟩:=h.split
 obtain rfl:=h.none
 obtain ⟨z1,rfl,_⟩:=h1.i64
 obtain ⟨z2,rfl,_⟩:=h2.i64
 obtain ⟨z3,rfl,_⟩:=h3.i64
 obtain ⟨z4,rfl,_⟩:=h4.i64
 obtain ⟨z5,rfl,_⟩:=h5.i64
 obtain ⟨z6,rfl,_⟩:=h6.i64
 obtain ⟨z7,rfl,_⟩:=h7.i64
 obtain ⟨z8,rfl,_⟩:=h8.i64
 obtain ⟨z9,rfl,_⟩:=h9.i64
 obtain ⟨z10,rfl,_⟩:=h10.i64
 obtain ⟨b,rfl⟩:=h11.boo
 exact ⟨⟨z1,z2,z3,z4,z5,z6,z7,z8,z9,z10,b⟩,rfl⟩
structure EvR where
 k:Int
 at_:Int
 v:Value
 bs:List zQ
instance : Inhabited EvR:=⟨⟨0,0,.slice none 0 0,[]⟩⟩
def evV (x:EvR):List Value:=[.int .i64 x.k,.int .i64 x.at_,x.v]
theorem zGw (x:EvR):(evV x).length=3:=rfl
structure EvR.ok (W:World) (x:EvR):Prop where
 k:R64 x.k
 at_:R64 x.at_
 rd:Rd W [] x.v 1 x.bs.length (zD x.bs)
theorem zcX {c:List Value} (h:AllK W c [.i .i64,.i .i64,.s 1 [.i .u8]]):∃ x:EvR,c=evV x∧x.ok W:=by
 obtain ⟨_,_,rfl,h1,h⟩:=h.split
 obtain ⟨_,_,rfl,h2,h⟩:=h.split
 obtain ⟨_,_,rfl,h3,h⟩:=h.split
 obtain rfl:=h.none
 obtain ⟨z1,rfl,w1⟩:=h1.i64
 obtain ⟨z2,rfl,w2⟩:=h2.i64
 obtain ⟨len,f,hf,hr⟩:=h3.sl
 obtain ⟨bs,hl,he⟩:=zPv (g:=λb:zQ=>[zKw b]) len λi hi=>zb3 (hf i hi)
 rw [he,zQn] at hr
 rw [← hl] at hr
 exact ⟨⟨z1,z2,_,bs⟩,rfl,⟨w1,w2,hr⟩⟩
theorem zV8 {H : Type} {enc : TypeId × Value → H} {P : Program} {t e : TypeId} {a : Option Addr} {len cap m : Nat} {dd : DataW H} {p : List MemPlace} (hu : P.underlying t = some (.slice e)) (hk : zF9 P m t = some [.s 3 [.i .i64, .i .i64, .s 1 [.i .u8]]]) (h : DataW.Trod enc P W 0 (fun _ => true) true t (.slice a len cap) dd p) :
   ∃ L:List EvR,Rd W [] (.slice a len cap) 3 L.length (L.flatMap evV)∧∀ x∈L,x.ok W:=by
 obtain ⟨f,hf,hr⟩:=zMx hu hk h
 obtain ⟨l,hl,he,hp⟩:=zNn (g:=evV) (p:=λx:EvR=>x.ok W) len λi hi=>zcX (hf i hi)
 subst hl
 rw [he] at hr
 exact ⟨l,hr,hp⟩
theorem zMd {l:List EvR} {i:Nat} (h:i<l.length):l.getD i default∈l:=by
 rw [List.getD_eq_getElem?_getD,List.getElem?_eq_getElem h];exact List.getElem_mem h
def plC : zAS:=⟨8,4,0,0,0,0,0,1,1,5,false⟩
def zOe (t tm:Int) (l:List zS):List zQ:=gwB (fG t tm l).t (fG t tm l).tm (fG t tm l).b (fG t tm l).l
theorem zIh (t tm:Int) (l:List zS):(zOe t tm l).length≤1000000:=Nat.le_trans (zGl _ _ _ _) (by decide)
def zRu (L:List EvR):Nat→Int
 | 0=>0
 | j+1=>IntKind.i64.wrap (zRu L j+((L.getD j default).bs.length:Int))
def Grt (L:List EvR):Prop:=60<L.length∨12000<zRu L L.length
instance (L:List EvR):Decidable (Grt L):=by unfold Grt;infer_instance
theorem zWn (L:List EvR):∀ j,R64 (zRu L j)
 | 0=>by show R64 0;omega
 | j+1=>zBx _
def tEn (x:Int):zS:=⟨1,x,0,0,65536,0,0,0#16,0#8⟩
theorem zN8 {x:Int} (h:R64 x):∀ e∈[tEn x],e.wf:=by
 intro e he;rw [List.mem_singleton] at he;rw [he]
 exact ⟨(by show R64 1;omega),h,(by show R64 0;omega),(by show R64 0;omega),(by show R64 65536;omega),(by show R64 0;omega),(by show R64 0;omega)⟩
theorem zUS : zCb plC=0:=by decide +kernel
theorem zcI : zMI 1 0 [tEn 0]=0:=by decide +kernel
theorem zcT : zMI 2 10 [tEn 10]=0:=by decide +kernel
def tP0 : zY:=zDq (tEn 0)
def tP1 : zY:=zDq (tEn 10)
theorem zZ8 : fG 1 0 [tEn 0]=⟨1,0,-1,[tP0]⟩:=by rw [zbn zcI];kernel_rfl
theorem zZ6 : fG 2 10 [tEn 10]=⟨2,10,-1,[tP1]⟩:=by rw [zbn zcT];kernel_rfl
theorem zRS : zA (zOe 1 0 [tEn 0])=⟨1,0,-1,[tP0],0⟩:=by
 have h:=zId (zXm (bt:=1) (btm:=0) (zN8 (x:=0) (by omega))) (t:=1) (tm:=0) (b:=-1) (by rw [zZ8];decide +kernel)
 unfold zOe;rw [zZ8] at h ⊢;exact h
theorem zVY : zA (zOe 2 10 [tEn 10])=⟨2,10,-1,[tP1],0⟩:=by
 have h:=zId (zXm (bt:=2) (btm:=10) (zN8 (x:=10) (by omega))) (t:=2) (tm:=10) (b:=-1) (by rw [zZ6];decide +kernel)
 unfold zOe;rw [zZ6] at h ⊢;exact h
def tS1 : CS:=zNR plC (C0 plC) 100 (zA (zOe 1 0 [tEn 0]))
def tS2 : CS:=zNR plC tS1 110 (zA (zOe 2 10 [tEn 10]))
def tS3 : CS:=zTQ plC tS2 104
def tS4 : CS:=zTQ plC tS3 113
theorem zc6 : zG1 plC (C0 plC) (zA (zOe 1 0 [tEn 0]))=0:=by rw [zRS];decide +kernel
theorem zcz : zG1 plC tS1 (zA (zOe 2 10 [tEn 10]))=0:=by unfold tS1;rw [zRS,zVY];decide +kernel
theorem zc5 : zB1 plC tS2 104=⟨true,4,[⟨1,4,0,0,0#16,1⟩]⟩:=by unfold tS2 tS1;rw [zRS,zVY];kernel_rfl
theorem zc2 : zB1 plC tS3 113=⟨true,13,[⟨1,13,0,0,0#16,3⟩]⟩:=by unfold tS3 tS2 tS1;rw [zRS,zVY];kernel_rfl
theorem zc7 : zB1 plC tS4 900=⟨true,800,[⟨1,15,0,0,0#16,4⟩]⟩:=by unfold tS4 tS3 tS2 tS1;rw [zRS,zVY];kernel_rfl
theorem zWR : (C0 plC).ok plC:=zbs zUS
theorem zWU : tS1.ok plC:=zNA zUS zWR
theorem zWT : tS2.ok plC:=zNA zUS zWU
theorem zWq : tS3.ok plC:=zMu (by decide) zWT
theorem zbQ : tS4.ok plC:=zMu (by decide) zWq
theorem zck : ∀ i,(C0 plC).σ.n i≤1000000:=λi=>Nat.zero_le _
theorem zb7 : ∀ i,tS1.σ.n i≤1000000:=λi=>Nat.le_trans (zNx _ (C0 plC) _ _ i) (by decide:0+1≤1000000)
theorem zZL : ∀ i,tS2.σ.n i≤1000000:=λi=>Nat.le_trans (zNx _ tS1 _ _ i) (Nat.le_trans (Nat.succ_le_succ (zNx _ (C0 plC) _ _ i)) (by decide:0+1+1≤1000000))
theorem zQx : (C0 plC).fr≤1000000:=by decide
theorem zbp : tS3.fr≤1000000:=(by decide:1≤1000000)
theorem zaU : tS4.fr≤1000000:=(by decide:2≤1000000)
section
variable {P : Program} {ops : Array Oper} {Q : Exit → Act → World → Prop} {rest : List Oper} {n : Nat} {F : List (Nat × Value)} {w0 : World} {S : List Nat} {M : List HA} {a : Act} {w : World} {d : Nat} {ty : TypeId} {pos : String} {af : Array Edge}
theorem zJB {t kt e : TypeId} {m x y : Operand} {g : Nat} {k : Int} {u : Value} {kv kv' : List (Int × Value)} {M' : List HA} (hs : St n F w0 S M a w) (hm : evo F m = some (.map (some g))) (hx : evo F x = some (.int .i64 k)) (hy : evo F y = some u) (hb : Del M (mpr g kv) M')
   (ht:P.underlying t=some (.map kt e)) (hkt:P.underlying kt=some (.int .i64)) (he:zNr k u kv=kv')
   (c:∀ a w,St n F w0 S (mpr g kv'::M') a w→wpList P ops Q rest a w):wpList P ops Q (⟨none,.insert t m x y,ty,pos,af,none⟩::rest) a w:=by
 subst he
 obtain ⟨w',hr,hw⟩:=zQ7 (hs.mem.del hb) ht hkt (k:=k) (u:=u)
 exact zH2 rfl rfl (by simp [execOp,hs.ev hm,hs.ev hx,hs.ev hy,hr]) (c _ _ (hs.frame (.c hb .n) hw))
theorem zJm {t kt e : TypeId} {m x : Operand} {g : Nat} {k : Int} {kv : List (Int × Value)} {z v : Value} {b : Bool} {M' : List HA} (hs : St n F w0 S M a w) (hm : evo F m = some (.map (some g))) (hx : evo F x = some (.int .i64 k)) (hb : Del M (mpr g kv) M')
   (ht:P.underlying t=some (.map kt e)) (hkt:P.underlying kt=some (.int .i64)) (hz:∀ w,(zeroValue e).run P w = .ok z w) (hv:(zHf k kv).getD z=v) (hq:(zHf k kv).isSome=b) (hd:Nat.blt d n=true)
   (c:∀ a w,St n ((d,.tuple #[v,.bool b])::F) w0 S M a w→wpList P ops Q rest a w):wpList P ops Q (⟨some d,.lookup t m x true,ty,pos,af,none⟩::rest) a w:=by
 subst hv hq
 exact zRV hs hm hx hb ht hkt hz hd c
end
theorem zNw {k:Int} {a b:Value} (h0:k≠0) (h1:k≠1):zHf k [(0,a),(1,b)]=none:=by
 simp only [zHf]
 rw [if_neg (λh=>h0 h.symm),if_neg (λh=>h1 h.symm)]
def cDo (c:zAS) (C:CS) (e:EvR):CS:=if e.k=0 then zNR c C e.at_ (zA e.bs) else if e.k=1 then zTQ c C e.at_ else C
def zV (c:zAS) (C:CS) (e:EvR):ShR:=if e.k=1 then zB1 c C e.at_ else ⟨false,0,[]⟩
def zbz (c:zAS) (C:CS) (e:EvR):Nat:=if e.k=0 then zG1 c C (zA e.bs) else if e.k=1 then 0 else 11
theorem zSY {c:zAS} {C:CS} {e:EvR} (hk:zCb c=0) (he:R64 e.at_) (h:C.ok c):(cDo c C e).ok c:=by
 unfold cDo
 split
 ·exact zNA hk h
 ·split
  ·exact zMu he h
  ·exact h
theorem zXc (c:zAS) (C:CS) (e:EvR) (i:Nat):(cDo c C e).σ.n i≤C.σ.n i+1:=by
 unfold cDo
 split
 ·exact zNx _ _ _ _ i
 ·split
  ·exact Nat.le_succ _
  ·exact Nat.le_succ _
theorem zbj (c:zAS) (C:CS) (e:EvR):(cDo c C e).fr=C.fr+(if e.k=1 then 1 else 0):=by
 unfold cDo
 split
 · rename_i h;rw [if_neg (by omega)];rfl
 · split<;>rfl
theorem zJn (c:zAS) (C:CS) (e:EvR):(cDo c C e).fr≤C.fr+1:=by rw [zbj];split<;>omega
theorem za7 {c:zAS} {K:KS} {x:Int} (hq:0<K.l2.length) (hb:K.b≠0):K.s≤kTm c K x:=by
 unfold kTm sS sS1
 rw [if_pos hq,show sP K.b (zR1 K x) K.s=K.s from if_neg hb]
 omega
theorem zbX {c:zAS} {K:KS} {x:Int} (hq:0<K.l2.length):(zLF c K x).b=1∧(zLF c K x).s=kTm c K x:=by
 unfold zLF kTm;rw [if_pos hq,if_pos hq];exact ⟨rfl,rfl⟩
def ShI (K:KS) (bg:Bool) (last:Int):Prop:=bg=true→K.b=1∧K.s=last
theorem ShI.arr {c:zAS} {C:CS} {bg:Bool} {last x:Int} {G:zDQ} (h:ShI C.K bg last):ShI (zNR c C x G).K bg last:=by
 intro hb
 have:=h hb
 show (if _ then _ else _:KS).b=1∧(if _ then _ else _:KS).s=last
 split<;>exact this
theorem zSy {c:zAS} {C:CS} {x:Int} (h:(zB1 c C x).ready=true):0<C.K.l2.length:=by
 unfold zB1 at h
 split at h
 · assumption
 · cases h
theorem zT4 {c:zAS} {C:CS} {e:EvR} (h:(zV c C e).ready=false):zV c C e=⟨false,0,[]⟩:=by
 unfold zV at h ⊢
 split
 ·rename_i hk;rw [if_pos hk] at h
  unfold zB1 at h ⊢
  split
  ·rename_i hq;rw [if_pos hq] at h;cases h
  ·rfl
 ·rfl
theorem zYB {c:zAS} {C:CS} {e:EvR} (hk:e.k=1) (h:(zV c C e).ready=true):0<C.K.l2.length∧zV c C e=⟨true,kTm c C.K e.at_,(zB0 c C.σ.l (kTm c C.K e.at_)).1⟩:=by
 have hd:zV c C e=zB1 c C e.at_:=if_pos hk
 rw [hd] at h ⊢
 have hq:=zSy h
 exact ⟨hq,if_pos hq⟩
theorem ShI.other {c:zAS} {C:CS} {bg:Bool} {last:Int} {e:EvR} (h:ShI C.K bg last) (hr:(zV c C e).ready=false):ShI (cDo c C e).K bg last:=by
 unfold cDo
 split
 ·exact h.arr
 ·split
  ·rename_i hk
   unfold zV at hr;rw [if_pos hk] at hr
   intro hb
   show (zLF c C.K e.at_).b=1∧(zLF c C.K e.at_).s=last
   unfold zB1 at hr
   unfold zLF
   split at hr
   ·cases hr
   ·rename_i hq;rw [if_neg hq];exact h hb
  ·exact h
theorem ShI.shown {c:zAS} {C:CS} {x:Int} (hq:0<C.K.l2.length):ShI (zTQ c C x).K true (kTm c C.K x):=λ_=>zbX hq
theorem ShI.ge {c:zAS} {C:CS} {bg:Bool} {last x:Int} (h:ShI C.K bg last) (hq:0<C.K.l2.length) (hb:bg=true):¬ kTm c C.K x<last:=by
 obtain ⟨h1,h2⟩:=h hb
 have:=za7 (c:=c) (x:=x) hq (by rw [h1];decide)
 omega
theorem zSk {l:List zAD} (h:srt l) {i:Nat} (hi:i<l.length):zAz l (l.getD i default).t=i:=by
 have hg:∀ (a b:Nat),a<b→b<l.length→(l.getD a default).t<(l.getD b default).t:=by
  intro a b hab hb
  have:=List.pairwise_iff_getElem.1 h a b (by omega) hb hab
  rw [List.getD_eq_getElem?_getD,List.getD_eq_getElem?_getD,List.getElem?_eq_getElem (by omega:a<l.length),List.getElem?_eq_getElem hb]
  exact this
 rcases Nat.lt_trichotomy (zAz l (l.getD i default).t) i with hlt | heq | hgt
 ·have h1:=zMq h (Nat.le_refl _) (by omega:zAz l (l.getD i default).t<l.length)
  have h2:=hg _ i hlt hi
  omega
 ·exact heq
 ·have:=zMQ h hgt
  omega
theorem zME {l:List zAD} {i:Nat} (hi:i<l.length):zDl l (l.getD i default).t=true:=by
 refine List.any_eq_true.2 ⟨l.getD i default,?_,by simp⟩
 rw [List.getD_eq_getElem?_getD,List.getElem?_eq_getElem hi];exact List.getElem_mem hi
theorem zP5 {l:List zAD} (h:srt l) {i:Nat} (hi:i<l.length):zCM l (l.getD i default).t=l.getD i default:=by
 unfold zCM;rw [if_pos (zME hi),zSk h hi]
theorem zRT {l:List zAD} {i:Nat} (hi:i<l.length):(l.map zAD.t).getD i 0=(l.getD i default).t:=by
 rw [List.getD_eq_getElem?_getD,List.getElem?_map,List.getD_eq_getElem?_getD,List.getElem?_eq_getElem hi];rfl
theorem zVH {L:List RI} {l:List zAD} {j:Nat} {v:Value} (hs:srt l) (h:sns L=l.take j) (hj:j<l.length):sns (L++[(⟨(zCM l ((l.map zAD.t).getD j 0)).t,(zCM l ((l.map zAD.t).getD j 0)).tm,(zCM l ((l.map zAD.t).getD j 0)).l,v⟩ : RI)])=l.take (j+1):=by
 rw [zRT hj,zP5 hs hj]
 have h2:sns (L++[(⟨(l.getD j default).t,(l.getD j default).tm,(l.getD j default).l,v⟩ : RI)])=sns L++[l.getD j default]:=by unfold sns;rw [List.map_append];rfl
 rw [h2,h,List.take_succ_eq_append_getElem hj,List.getD_eq_getElem?_getD,List.getElem?_eq_getElem hj];rfl
theorem zO7 {c:zAS} {l:List zAD} {t:Int}:(zB0 c l t).1.length≤64:=by
 unfold zB0 zDf
 split
 ·exact Nat.zero_le _
 ·split
  ·exact Nat.zero_le _
  ·split
   ·unfold zC6
    split
    ·exact Nat.zero_le _
    ·rename_i h
     have h0:zDs c ((List.map zWc l).getD (zA7 (List.map zWc l) t).1.toNat default) t=0:=Decidable.not_not.1 h
     unfold zDs at h0
     split at h0
     ·rename_i h1;exact absurd h0 h1
     ·rename_i h1;rw [List.length_map];exact zHa (Decidable.not_not.1 h1) (by simp)
   ·unfold zDR
    split
    ·exact Nat.zero_le _
    ·rename_i h
     have h0:zDT c ((List.map zWc l).getD (zA7 (List.map zWc l) t).1.toNat default) ((List.map zWc l).getD (zA7 (List.map zWc l) t).2.1.toNat default) t=0:=Decidable.not_not.1 h
     unfold zDT at h0
     split at h0
     ·rename_i h1;exact absurd h0 h1
     ·rename_i h1;rw [List.length_map];exact zHa (Decidable.not_not.1 h1) (by simp)
def arn (L:List RI) (t:Int):Nat→Int
 | 0=>-1
 | k+1=>if (L.getD k default).tm≤t then (k:Int) else arn L t k
theorem zcE {L:List RI} {t:Int} {k:Nat} (h:(L.getD k default).tm≤t):arn L t (k+1)=(k:Int):=if_pos h
theorem zci {L:List RI} {t:Int} {k:Nat} (h:¬ (L.getD k default).tm≤t):arn L t (k+1)=arn L t k:=if_neg h
theorem zRL (L:List RI) (t:Int):∀ k,-1≤arn L t k∧arn L t k<(k:Int)
 | 0=>by show (-1:Int) ≤ -1∧(-1:Int)<0;omega
 | k+1=>by
  have:=zRL L t k
  unfold arn
  split<;>omega
theorem zWk {L:List RI} {t:Int}:∀ {k i:Nat} {nx:Int},zIn L t k=some (i,nx)→arn L t k=(i:Int)
 | 0,_,_,h=>by cases h
 | k+1,i,nx,h=>by
  unfold zIn at h
  unfold arn
  split at h
  ·next hle=>cases h;rw [if_pos hle]
  ·next hle=>rw [if_neg hle];exact zWk h
theorem zIG {x y z:Int} (h:min x y≤z∧z≤max x y):zAI z x y=z:=by unfold zAI;omega
theorem zWB (n x y:Int):zAI (zAI n x y) x y=zAI n x y:=by unfold zAI;omega
theorem zRD {b:Bool} {n d x u y v:Int} (h:zBP n d=0):zAI (pW b n d x u y v) x y=pW b n d x u y v:=by
 have hb:(zBP n d==0)=true:=by rw [h];rfl
 unfold pW
 cases b with
 | false =>
  show zAI (pL n d x y) x y=pL n d x y
  unfold pL
  rw [hb]
  exact zIG (zLL h)
 | true =>
  show zAI (pC n d x u y v) x y=pC n d x u y v
  unfold pC
  rw [hb]
  show zAI (cAt x u y v n d) x y=cAt x u y v n d
  unfold cAt
  split
  ·exact zIG (by omega)
  ·split
   ·exact zIG (by omega)
   ·exact zWB _ _ _
theorem zao (A:BitVec 16) {n:Int} (h : -32768≤n∧n≤32767):aTo A (aBy A n)=n:=by
 unfold aTo aBy
 have e:A+BitVec.ofInt 16 n-A=BitVec.ofInt 16 n:=by rw [BitVec.add_comm,BitVec.add_sub_cancel]
 rw [e,BitVec.toInt_ofInt]
 show (if n%65536<(65536+1)/2 then n%65536 else n%65536-65536)=n
 split<;>omega
theorem zaR {n d:Int} {x y:BitVec 16} (h:zBP n d=0):zPo (pA n d x y) x y=true:=by
 have hb:(zBP n d==0)=true:=by rw [h];rfl
 unfold pA
 rw [hb]
 show zPo (zQf x y n d) x y=true
 unfold zQf zPo
 have h1:=zLL (x:=0) (y:=aTo x y) h
 have h2:=zS2 x y
 rw [zao x (by omega),Bool.and_eq_true]
 exact ⟨decide_eq_true h1.1,decide_eq_true h1.2⟩
theorem zRH {x y:RI} {t:Int} (h:(zAp x y t).2.2=0):zBP (zAp x y t).1 (zAp x y t).2.1=0∧x.tm≤t∧t≤y.tm:=by
 unfold zAp at h ⊢
 by_cases h1:zDc none [x.tm,y.tm]=0
 ·have h2:=zN9 h1
  rw [if_neg (by omega)] at h ⊢
  split at h
  ·cases h
  ·rename_i h3
   rw [if_neg h3]
   refine ⟨?_,by omega,by omega⟩
   unfold zBP
   dsimp only
   exact if_neg (by omega)
 ·rw [if_pos h1] at h;exact absurd h h1
structure Bet (L:List RI) (t:Int) (P:zFo) (i:Nat):Prop where
 at_:arn L t L.length=(i:Int)
 lt:i+1<L.length
 le:(L.getD i default).tm≤t
 ge:t≤(L.getD (i+1) default).tm
 a:(zT P.id (L.getD i default).l).isSome=true
 b:(zT P.id (L.getD (i+1) default).l).isSome=true
 g:((zT P.id (L.getD i default).l).getD zAA).g=((zT P.id (L.getD (i+1) default).l).getD zAA).g
 p0:zAI P.p0 ((zT P.id (L.getD i default).l).getD zAA).p0 ((zT P.id (L.getD (i+1) default).l).getD zAA).p0=P.p0
 p1:zAI P.p1 ((zT P.id (L.getD i default).l).getD zAA).p1 ((zT P.id (L.getD (i+1) default).l).getD zAA).p1=P.p1
 p2:zAI P.p2 ((zT P.id (L.getD i default).l).getD zAA).p2 ((zT P.id (L.getD (i+1) default).l).getD zAA).p2=P.p2
 an:zPo P.a ((zT P.id (L.getD i default).l).getD zAA).a ((zT P.id (L.getD (i+1) default).l).getD zAA).a=true
theorem zaW {c:zAS} {L:List RI} {t:Int} {P:zFo} (hP:P∈(zDf c L t).1) (hm:P.m=1∨P.m=2):∃ i,Bet L t P i:=by
 unfold zDf at hP
 split at hP
 ·cases hP
 ·split at hP
  ·cases hP
  ·rename_i hc hb
   obtain ⟨_,i,h1,h2,h3,h4,_⟩:=zOX (Decidable.not_not.1 hb)
   have har:arn L t L.length=(i:Int):=by
    have hb2:=Decidable.not_not.1 hb
    unfold zA7 at hb2 h2
    split at hb2
    ·rename_i h5;exact absurd hb2 h5
    ·rename_i h5
     rw [if_neg h5] at h2
     cases hp:zIn L t L.length with
     | none=>rw [hp] at hb2;cases hb2
     | some q =>
      rw [hp] at h2
      have:=zWk (nx:=q.2) (i:=q.1) hp
      have h6:((q.1:Nat):Int)=(i:Int):=h2
      rw [this];exact h6
   split at hP
   ·rename_i hneg
    unfold zC6 at hP
    split at hP
    ·cases hP
    ·obtain ⟨x,hx,rfl⟩:=List.mem_map.1 hP
     exfalso
     have:zHJ c (zHG (L.getD (zA7 L t).1.toNat default) t).1=1∨zHJ c (zHG (L.getD (zA7 L t).1.toNat default) t).1=2:=hm
     unfold zHJ at this
     split at this
     ·omega
     ·split at this<;>omega
   ·rename_i hneg
    rw [h4] at hneg
    have hl:¬ i+1=L.length:=λe=>by rw [if_pos e] at hneg;omega
    rw [if_neg hl] at h4
    rw [h2,h4,Int.toNat_natCast,Int.toNat_natCast] at hP
    unfold zDR at hP
    split at hP
    ·cases hP
    ·rename_i he
     have he0:zDT c (L.getD i default) (L.getD (i+1) default) t=0:=Decidable.not_not.1 he
     unfold zDT at he0
     split at he0
     ·rename_i h6;exact absurd he0 h6
     ·rename_i h6
      have hk:=zRH he0
      have hse:=(zMc (Decidable.not_not.1 h6)).2
      have hu:zLm (L.getD i default).l:=(zGB (zCR (zLw hse _ (by simp))).2.2.2.2.2).uniq
      obtain ⟨x,hx,rfl⟩:=List.mem_map.1 hP
      have hid:(zRm c.curve (zAp (L.getD i default) (L.getD (i+1) default) t).1 (zAp (L.getD i default) (L.getD (i+1) default) t).2.1 (L.getD (i+1) default).l x).id=x.id:=by unfold zRm;split<;>rfl
      have hex:zT x.id (L.getD i default).l=some x:=zEQ hu hx
      by_cases ho:(zT x.id (L.getD (i+1) default).l).isSome=true∧((zT x.id (L.getD (i+1) default).l).getD zAA).g=x.g
      ·rw [zQ9 ho] at hid ⊢
       refine ⟨i,har,by omega,h3,hk.2.2,?_,?_,?_,?_,?_,?_,?_⟩
       ·show (zT x.id _).isSome=true;rw [hex];rfl
       ·exact ho.1
       ·show ((zT x.id _).getD zAA).g=_;rw [hex];exact ho.2.symm
       ·show zAI _ ((zT x.id _).getD zAA).p0 _=_;rw [hex];exact zRD hk.1
       ·show zAI _ ((zT x.id _).getD zAA).p1 _=_;rw [hex];exact zRD hk.1
       ·show zAI _ ((zT x.id _).getD zAA).p2 _=_;rw [hex];exact zRD hk.1
       ·show zPo _ ((zT x.id _).getD zAA).a _=_;rw [hex];exact zaR hk.1
      ·rw [zMk ho] at hm
       have:(0:Int)=1∨(0:Int)=2:=hm
       omega
theorem zSl (c:zAS) (C:CS) (e:EvR):(zV c C e).l.length≤64:=by
 unfold zV
 split
 ·unfold zB1
  split
  ·exact zO7
  ·exact Nat.zero_le _
 ·exact Nat.zero_le _
theorem zLi {c:zAS} {C:CS} {x:EvR} {K:List RI} {e:Nat} (hk:x.k=1) (hK:sns K=(cDo c C x).σ.l) (he:e<(zV c C x).l.length) (hm:((zV c C x).l.getD e default).m=1∨((zV c C x).l.getD e default).m=2):∃ i,Bet K (zV c C x).time ((zV c C x).l.getD e default) i:=by
 have hr:(zV c C x).ready=true:=by
  cases h:(zV c C x).ready with
  | true=>rfl
  | false=>rw [zT4 h] at he;exact absurd he (Nat.not_lt_zero _)
 obtain ⟨_,hS⟩:=zYB hk hr
 have hc:(cDo c C x).σ=C.σ:=by
  have:cDo c C x=zTQ c C x.at_:=(if_neg (by omega)).trans (if_pos hk)
  rw [this];rfl
 rw [hc] at hK
 have hmem:(zV c C x).l.getD e default∈(zV c C x).l:=by
  rw [List.getD_eq_getElem?_getD,List.getElem?_eq_getElem he];exact List.getElem_mem he
 generalize (zV c C x).l.getD e default=P at hmem hm ⊢
 rw [hS] at hmem ⊢
 have h2:P∈(zB0 c C.σ.l (kTm c C.K x.at_)).1:=hmem
 rw [← hK,← zN0] at h2
 exact zaW h2 hm
theorem zcn {a b:BitVec 8} (h:a=b):(!(((a.toNat:Nat):Int)==((b.toNat:Nat):Int)))=false:=by subst h;simp
end Go.Sx
