import Derived.WalkKit
import Derived.Laws.BytesArg
import Derived.Maps.AppendAt
import Derived.Deep.AppendLies
import Derived.Great.BuildSlice
set_option linter.unusedVariables false
set_option linter.unusedSimpArgs false
namespace Go.Sx
open Go.RowKit
def lk : List (Nat×Value)→Nat→Option Value
 | [],_=>none
 | (d,v)::r,t=>bif Nat.beq d t then some v else lk r t
theorem zBT (d:Nat) (v:Value) (r:List (Nat×Value)) (t:Nat):lk ((d,v)::r) t=if d=t then some v else lk r t:=by
 show (bif Nat.beq d t then some v else lk r t)=_
 by_cases h:d=t
 ·subst h;simp
 ·have:Nat.beq d t=false:=by cases hb:Nat.beq d t with | false=>rfl | true=>exact absurd (Nat.eq_of_beq_eq_true hb) h
  simp [this,h]
def evo (F:List (Nat×Value)):Operand→Option Value
 | .tmp t=>lk F t
 | .const v=>some v
 | .global g=>some (.pointer (some ⟨g,0,none⟩))
 | .func f=>some (.func (.func f) #[] #[])
inductive Evs (F:List (Nat×Value)):List Operand→List Value→Prop
 | n:Evs F [] []
 | c {x v xs vs}:evo F x=some v→Evs F xs vs→Evs F (x::xs) (v::vs)
inductive Sub (F:List (Nat×Value)):List (Nat×Value)→Prop
 | n:Sub F []
 | c {d v r}:lk F d=some v→Sub F r→Sub F ((d,v)::r)
structure HA where
 foot:List Nat
 p:World→Prop
 loc:∀ w w':World,(∀ k∈foot,w'.heap[k]? = w.heap[k]?)→p w→p w'
 lt:∀ w,p w→∀ k∈foot,k<w.heap.size
def blk (g:Nat) (cs:List Value) (t:TypeId):HA where
 foot:=[g]
 p w:=w.heap[g]? = some (.cells cs.toArray t (0,0))
 loc w w' h hp:=by rw [h g (by simp)];exact hp
 lt w h k hk:=by
  have:k=g:=by simpa using hk
  subst this
  exact (Array.getElem?_eq_some_iff.1 h).1
def row (v:Value) (e size n:Nat) (xs:List Value):HA where
 foot:=v.ownBlock.toList
 p w:=w.ownsRow 0 e size v n xs
 loc w w' h hp:=by
  refine ⟨hp.1,?_⟩
  rcases hp.2 with hn | ⟨g,cap,cur,rfl,hb,hgg,rest⟩
  ·exact .inl hn
  ·refine .inr ⟨g,cap,cur,rfl,hb,?_,rest⟩
   rw [h g (by simp [Value.ownBlock])]
   exact hgg
 lt w h k hk:=(h.lt k (by simpa using hk)).2
def zN (M:List HA):List Nat:=M.flatMap HA.foot
theorem zEz (h:HA) (M:List HA):zN (h::M)=h.foot++zN M:=rfl
theorem zAs (M N:List HA):zN (M++N)=zN M++zN N:=by simp [zN]
structure Chg (S:List Nat) (w0 w:World):Prop where
 os:w.os=w0.os
 tape:w.tape=w0.tape
 output:w.output=w0.output
 size:w0.heap.size≤w.heap.size
 block:∀ k,k<w0.heap.size→k ∉ S→w.heap[k]? = w0.heap[k]?
theorem Chg.refl (S:List Nat) (w:World):Chg S w w:=⟨rfl,rfl,rfl,Nat.le_refl _,λ_ _ _=>rfl⟩
theorem Chg.below {w0 w:World} (h:Chg [] w0 w):Below w0.heap.size w0 w:=⟨h.os,h.tape,h.output,h.size,λk hk=>h.block k hk (by simp)⟩
structure Mem (w0:World) (S:List Nat) (M:List HA) (w:World):Prop where
 chg:Chg S w0 w
 all:∀ h∈M,h.p w
 nd:(zN M).Nodup
 ge:∀ k∈zN M,k∈S∨w0.heap.size≤k
inductive Del : List HA→HA→List HA→Prop
 | z {x r}:Del (x::r) x r
 | s {u r x r'}:Del r x r'→Del (u::r) x (u::r')
inductive zC5 : List HA→List HA→List HA→Prop
 | n {M}:zC5 M [] M
 | c {M x M1 X M2}:Del M x M1→zC5 M1 X M2→zC5 M (x::X) M2
theorem Del.perm {M x M'} (h:Del M x M'):(zN M).Perm (x.foot++zN M'):=by
 induction h with
 | z=>exact List.Perm.refl _
 | @s u r x r' _ ih =>
  simp only [zEz]
  refine (List.Perm.append_left _ ih).trans ?_
  rw [← List.append_assoc,← List.append_assoc]
  exact List.Perm.append_right _ List.perm_append_comm
theorem Del.mem {M x M'} (h:Del M x M'):∀ y,y∈M↔y=x∨y∈M':=by
 induction h with
 | z=>intro y;simp
 | s _ ih=>intro y;simp only [List.mem_cons,ih];constructor<;>(rintro (h | h | h)<;>simp [h])
theorem zC5.perm {M X M'} (h:zC5 M X M'):(zN M).Perm (zN X++zN M'):=by
 induction h with
 | n=>exact List.Perm.refl _
 | c h _ ih =>
  simp only [zEz,List.append_assoc]
  exact h.perm.trans (List.Perm.append_left _ ih)
theorem zC5.mem {M X M'} (h:zC5 M X M'):∀ y,y∈M↔y∈X∨y∈M':=by
 induction h with
 | n=>intro y;simp
 | c h _ ih=>intro y;simp only [h.mem,ih,List.mem_cons,or_assoc]
theorem Mem.start {w:World} {S:List Nat} {M:List HA} (hall:∀ h∈M,h.p w) (hS:zN M=S) (hnd:S.Nodup):Mem w S M w :=
 ⟨Chg.refl _ _,hall,hS ▸ hnd,λk hk=>.inl (hS ▸ hk)⟩
theorem Mem.nil (w:World):Mem w [] [] w:=⟨Chg.refl _ _,by simp,by simp [zN],by simp [zN]⟩
theorem zAq {w:World} {h:HA} (hp:h.p w) (hnd:h.foot.Nodup:=by simp [blk]):Mem w (zN [h]) [h] w :=
 Mem.start (by simpa using hp) rfl (by simpa [zN] using hnd)
theorem Mem.del {w0 w:World} {S:List Nat} {M M':List HA} {x:HA} (h:Mem w0 S M w) (d:Del M x M'):x.p w:=h.all x ((d.mem x).2 (.inl rfl))
theorem Mem.drop {w0 w:World} {S:List Nat} {M M' X:List HA} (h:Mem w0 S M w) (d:zC5 M X M'):Mem w0 S M' w:=by
 have hp:=d.perm
 have hn:=hp.nodup_iff.1 h.nd
 exact ⟨h.chg,λy hy=>h.all y ((d.mem y).2 (.inr hy)),(List.nodup_append.1 hn).2.1,λk hk=>h.ge k (hp.mem_iff.2 (by simp [hk]))⟩
theorem Mem.frame {w0 w w':World} {S0:List Nat} {M M' X N:List HA} (h:Mem w0 S0 M w) (d:zC5 M X M') (hc:Mem w (zN X) N w'):Mem w0 S0 (N++M') w':=by
 have hp:=d.perm
 have hn:=List.nodup_append.1 (hp.nodup_iff.1 h.nd)
 have hlt:∀ y∈M',∀ k∈y.foot,k<w.heap.size∧k ∉ zN X:=λy hy k hk =>
  ⟨y.lt w (h.all y ((d.mem y).2 (.inr hy))) k hk,λhx=>hn.2.2 k hx k (List.mem_flatMap.2 ⟨y,hy,hk⟩) rfl⟩
 refine ⟨⟨hc.chg.os.trans h.chg.os,hc.chg.tape.trans h.chg.tape,hc.chg.output.trans h.chg.output,Nat.le_trans h.chg.size hc.chg.size,λk hk hS=>?_⟩,?_,?_,?_⟩
 ·rw [hc.chg.block k (Nat.lt_of_lt_of_le hk h.chg.size) (λhx=>?_)]
  ·exact h.chg.block k hk hS
  ·rcases h.ge k (hp.mem_iff.2 (by simp [hx])) with h1 | h1
   ·exact hS h1
   ·omega
 ·intro y hy
  rcases List.mem_append.1 hy with hy | hy
  ·exact hc.all y hy
  ·exact y.loc w w' (λk hk=>hc.chg.block k (hlt y hy k hk).1 (hlt y hy k hk).2) (h.all y ((d.mem y).2 (.inr hy)))
 ·rw [zAs]
  refine List.nodup_append.2 ⟨hc.nd,hn.2.1,λa ha b hb e=>?_⟩
  subst e
  obtain ⟨y,hy,hk⟩:=List.mem_flatMap.1 hb
  rcases hc.ge a ha with h1 | h1
  ·exact (hlt y hy a hk).2 h1
  ·have:=(hlt y hy a hk).1;omega
 ·intro k hk
  rw [zAs] at hk
  rcases List.mem_append.1 hk with hk | hk
  ·rcases hc.ge k hk with h1 | h1
   ·exact h.ge k (hp.mem_iff.2 (by simp [h1]))
   ·exact .inr (Nat.le_trans h.chg.size h1)
  ·exact h.ge k (hp.mem_iff.2 (by simp [hk]))
theorem zSA (w:World) (cs:Array Value) (t:TypeId):Mem w (zN []) [blk w.heap.size cs.toList t] (w.alloc (.cells cs t)):=by
 refine ⟨⟨rfl,rfl,rfl,by simp,λk hk _=>heap_alloc_old w _ hk⟩,?_,by simp [zN,blk],λk hk=>.inr (by simp [zN,blk] at hk;omega)⟩
 intro h hh
 simp only [List.mem_singleton] at hh
 subst hh
 show (w.alloc _).heap[w.heap.size]? = _
 simpa using heap_alloc_new w (.cells cs t)
theorem mem_grown {w w' : World} {v v' : Value} {e size n' : Nat} {xs' : List Value} (hg : w.grownBy w' v.ownBlock) (ho : w'.ownsRow 0 e size v' n' xs')
   (hat:v'.ownBlock=v.ownBlock∨∃ b,v'.ownBlock=some b∧w.heap.size≤b) {xs:List Value} {n:Nat}:Mem w (zN [row v e size n xs]) [row v' e size n' xs'] w':=by
 refine ⟨⟨hg.os,hg.tape,hg.output,hg.size,λk hk hS=>hg.block k hk (λe=>hS (by simp [zN,row,← e]))⟩,?_,?_,?_⟩
 · intro h hh
   simp only [List.mem_singleton] at hh
   subst hh
   exact ho
 · simp only [zN,row,List.flatMap_cons,List.flatMap_nil,List.append_nil]
   cases v'.ownBlock<;>simp
 · intro k hk
   simp only [zN,row,List.flatMap_cons,List.flatMap_nil,List.append_nil,Option.mem_toList] at hk ⊢
   rcases hat with h | ⟨b,h,hb⟩
   · left;rw [← h];exact hk
   · right;rw [h] at hk;cases hk;exact hb
theorem zPI (w : World) (g off : Nat) (cs : List Value) (t : TypeId) (u : Value) (h : w.heap[g]? = some (.cells cs.toArray t (0, 0))) :
   Mem w (zN [blk g cs t]) [blk g (cs.set off u) t] (w.setCell ⟨g,off,none⟩ u):=by
 refine ⟨⟨rfl,rfl,rfl,by simp [World.setCell],λk hk hS=>Below.heap_setCell w _ _ k (by simpa [zN,blk] using hS)⟩,?_,by simp [zN,blk],by simp [zN,blk]⟩
 intro y hy
 simp only [List.mem_singleton] at hy
 subst hy
 show (w.setCell _ _).heap[g]? = _
 simp [World.setCell,Array.getElem?_modify,h]
theorem zNT (w:World) (n:Nat):Mem w (zN []) [] { w with drawn:=n }:=⟨⟨rfl,rfl,rfl,Nat.le_refl _,λ_ _ _=>rfl⟩,by simp,by simp [zN],by simp [zN]⟩
structure St (n:Nat) (F:List (Nat×Value)) (w0:World) (S:List Nat) (M:List HA) (a:Act) (w:World):Prop where
 size:a.tmps.size=n
 dfr:a.defers=[]
 agr:∀ t v,lk F t=some v→a.tmps[t]? = some v
 mem:Mem w0 S M w
variable {n : Nat} {F : List (Nat × Value)} {w0 : World} {S : List Nat} {M : List HA} {a : Act} {w : World}
theorem St.ev (hs:St n F w0 S M a w) {x:Operand} {v:Value} (h:evo F x=some v):a.eval x=v:=by
 cases x with
 | tmp t=>have:=hs.agr t v h;simp [Act.eval,Array.getD_eq_getD_getElem?,this]
 | const u=>simpa [evo,Act.eval] using h
 | global g=>simpa [evo,Act.eval] using h
 | func f=>simpa [evo,Act.eval] using h
theorem St.evs (hs:St n F w0 S M a w) {xs:List Operand} {vs:List Value} (h:Evs F xs vs):xs.map a.eval=vs:=by
 induction h with
 | n=>rfl
 | c h _ ih=>simp [hs.ev h,ih]
theorem St.put (hs:St n F w0 S M a w) {d:Nat} (hd:Nat.blt d n=true) (v:Value):St n ((d,v)::F) w0 S M (a.put (some d) v) w:=by
 have hd':d<n:=by simpa using hd
 refine ⟨by simp [Act.put,hs.size],hs.dfr,λt u h=>?_,hs.mem⟩
 rw [zBT] at h
 simp only [Act.put]
 by_cases e:d=t
 ·subst e
  simp only [if_true,Option.some.injEq] at h
  subst h
  simp [hs.size,hd']
 ·rw [if_neg e] at h
  rw [Array.getElem?_setIfInBounds_ne e]
  exact hs.agr t u h
theorem St.sub (hs:St n F w0 S M a w) {F':List (Nat×Value)} (h:Sub F F'):St n F' w0 S M a w:=by
 refine ⟨hs.size,hs.dfr,?_,hs.mem⟩
 induction h with
 | n=>intro t v h;simp [lk] at h
 | @c d v r h _ ih =>
  intro t u hu
  rw [zBT] at hu
  by_cases e:d=t
  ·subst e;simp only [if_true,Option.some.injEq] at hu;subst hu;exact hs.agr _ _ h
  ·rw [if_neg e] at hu;exact ih t u hu
theorem St.memTo (hs:St n F w0 S M a w) {M':List HA} {w':World} (h:Mem w0 S M' w'):St n F w0 S M' a w':=⟨hs.size,hs.dfr,hs.agr,h⟩
theorem St.drop (hs:St n F w0 S M a w) {X M':List HA} (d:zC5 M X M'):St n F w0 S M' a w:=hs.memTo (hs.mem.drop d)
theorem St.frame (hs:St n F w0 S M a w) {X N M':List HA} {w':World} (d:zC5 M X M') (hc:Mem w (zN X) N w'):St n F w0 S (N++M') a w':=hs.memTo (hs.mem.frame d hc)
theorem cl {F':List (Nat×Value)} {M':List HA} {p:Act→World→Prop} (h:∀ {a w},St n F w0 S M a w→St n F' w0 S M' a w) (k:∀ a w,St n F' w0 S M' a w→p a w):∀ a w,St n F w0 S M a w→p a w:=λa w hs=>k a w (h hs)
abbrev zI (z:Int):Value:=.int .i64 z
abbrev nI (n:Nat):Value:=.int .i64 (n:Int)
abbrev bI (x:BitVec 8):Value:=.int .u8 (x.toNat:Int)
abbrev qI (x:BitVec 64):Value:=.int .u64 (x.toNat:Int)
abbrev pt (g o:Nat):Value:=.pointer (some ⟨g,o,none⟩)
def Ret (w:World) (S:List Nat) (post:Value→List HA→Prop):Ending→World→Prop:=λe w'=>∃ v N,e = .returned v∧post v N∧Mem w S N w'
variable {P : Program} {ops : Array Oper} {Q : Exit → Act → World → Prop} {rest : List Oper} {n : Nat} {F : List (Nat × Value)} {w0 : World} {S : List Nat} {M : List HA} {a : Act} {w : World}
theorem zDn {o : Oper} {d : Nat} {v : Value} {w' : World} (hg : o.guard = none) (hdst : o.dst = some d) (hrun : (execOp a.eval o).run P w = .ok (.value v) w')
   (k:wpList P ops Q rest (a.put (some d) v) w'):wpList P ops Q (o::rest) a w :=
 wpList_plain hg λK hK=>by
   unfold Oper.wp
   rw [hrun,Oper.upon_value,hdst]
   exact hK _ _ k
theorem zH2 {o : Oper} {w' : World} (hg : o.guard = none) (hdst : o.dst = none) (hrun : (execOp a.eval o).run P w = .ok .skip w')
   (k:wpList P ops Q rest a w'):wpList P ops Q (o::rest) a w :=
 wpList_plain hg λK hK=>by
   unfold Oper.wp
   rw [hrun,Oper.upon_skip,hdst]
   exact hK _ _ k
theorem zM {op : Op} {d : Nat} {v : Value} {ty : TypeId} {pos : String} {af : Array Edge} (hs : St n F w0 S M a w) (hrun : (execOp a.eval ⟨some d, op, ty, pos, af, none⟩).run P w = .ok (.value v) w) (hd : Nat.blt d n = true)
   (k:∀ a w,St n ((d,v)::F) w0 S M a w→wpList P ops Q rest a w):wpList P ops Q (⟨some d,op,ty,pos,af,none⟩::rest) a w :=
 zDn rfl rfl hrun (k _ _ (hs.put hd v))
theorem zGN {x:Operand} {v:Value} {d:Nat} {ty:TypeId} {pos:String} {af:Array Edge} (hs:St n F w0 S M a w) (hx:evo F x=some v) (hd:Nat.blt d n=true) (k:∀ a w,St n ((d,v)::F) w0 S M a w→wpList P ops Q rest a w):wpList P ops Q (⟨some d,.move x,ty,pos,af,none⟩::rest) a w :=
 zM hs (by simp [execOp,hs.ev hx]) hd k
theorem zEd {x:Operand} {v:Value} {d:Nat} {ty:TypeId} {pos:String} {af:Array Edge} (hs:St n F w0 S M a w) (hx:evo F x=some v) (hd:Nat.blt d n=true) (k:∀ a w,St n ((d,v)::F) w0 S M a w→wpList P ops Q rest a w):wpList P ops Q (⟨some d,.assign x,ty,pos,af,none⟩::rest) a w :=
 zM hs (by simp [execOp,hs.ev hx]) hd k
theorem zWM {x:Operand} {b:Bool} {t:TypeId} {d:Nat} {ty:TypeId} {pos:String} {af:Array Edge} (hs:St n F w0 S M a w) (hx:evo F x=some (.bool b)) (hd:Nat.blt d n=true) (k:∀ a w,St n ((d,.bool (!b))::F) w0 S M a w→wpList P ops Q rest a w):wpList P ops Q (⟨some d,.unOp .not t x,ty,pos,af,none⟩::rest) a w :=
 zM hs (by simp [execOp,hs.ev hx,Op.unary]) hd k
theorem zUe (d:Nat) {t:TypeId} {p q:Bool} (ht:P.underlying t=some .bool):(Op.equalIn (d+1) t (.bool p) (.bool q)).run P w = .ok (p==q) w:=by
 simp [Op.equalIn,run_underlying ht]
theorem zJ2 {t:TypeId} {p q:Bool} (ht:P.underlying t=some .bool):(Op.equalIn Op.maxDepth t (.bool p) (.bool q)).run P w = .ok (p==q) w:=zUe 9999 ht
theorem zEZ {x y:Operand} {kd:IntKind} {p q:Int} {t t2:TypeId} {d:Nat} {ty:TypeId} {pos:String} {af:Array Edge} (hs:St n F w0 S M a w) (hx:evo F x=some (.int kd p)) (hy:evo F y=some (.int kd q)) (hd:Nat.blt d n=true) (k:∀ a w,St n ((d,.int kd (kd.wrap (p+q)))::F) w0 S M a w→wpList P ops Q rest a w):wpList P ops Q (⟨some d,.binOp .add t x y t2,ty,pos,af,none⟩::rest) a w :=
 zM hs (by simp [execOp,hs.ev hx,hs.ev hy,binOp,eqGuard,Op.intArith,Op.intCmp]) hd k
theorem zIb {x y:Operand} {p q:Int} {t t2:TypeId} {d:Nat} {ty:TypeId} {pos:String} {af:Array Edge} (hs:St n F w0 S M a w) (hx:evo F x=some (.int .i64 p)) (hy:evo F y=some (.int .i64 q)) (hr : -9223372036854775808≤p+q∧p+q≤9223372036854775807) (hd:Nat.blt d n=true) (k:∀ a w,St n ((d,.int .i64 (p+q))::F) w0 S M a w→wpList P ops Q rest a w):wpList P ops Q (⟨some d,.binOp .add t x y t2,ty,pos,af,none⟩::rest) a w :=
 zM hs (by simp [execOp,hs.ev hx,hs.ev hy,binOp,eqGuard,Op.intArith,Op.intCmp,IntWalk.i64_in _ hr]) hd k
theorem zEp {x y:Operand} {kd:IntKind} {p q:Int} {t t2:TypeId} {d:Nat} {ty:TypeId} {pos:String} {af:Array Edge} (hs:St n F w0 S M a w) (hx:evo F x=some (.int kd p)) (hy:evo F y=some (.int kd q)) (hd:Nat.blt d n=true) (k:∀ a w,St n ((d,.int kd (kd.wrap (p-q)))::F) w0 S M a w→wpList P ops Q rest a w):wpList P ops Q (⟨some d,.binOp .sub t x y t2,ty,pos,af,none⟩::rest) a w :=
 zM hs (by simp [execOp,hs.ev hx,hs.ev hy,binOp,eqGuard,Op.intArith,Op.intCmp]) hd k
theorem zH6 {x y:Operand} {p q:Int} {t t2:TypeId} {d:Nat} {ty:TypeId} {pos:String} {af:Array Edge} (hs:St n F w0 S M a w) (hx:evo F x=some (.int .i64 p)) (hy:evo F y=some (.int .i64 q)) (hr : -9223372036854775808≤p-q∧p-q≤9223372036854775807) (hd:Nat.blt d n=true) (k:∀ a w,St n ((d,.int .i64 (p-q))::F) w0 S M a w→wpList P ops Q rest a w):wpList P ops Q (⟨some d,.binOp .sub t x y t2,ty,pos,af,none⟩::rest) a w :=
 zM hs (by simp [execOp,hs.ev hx,hs.ev hy,binOp,eqGuard,Op.intArith,Op.intCmp,IntWalk.i64_in _ hr]) hd k
theorem zYX {x y:Operand} {p q:Int} {t t2:TypeId} {d:Nat} {ty:TypeId} {pos:String} {af:Array Edge} (hs:St n F w0 S M a w) (hx:evo F x=some (.int .i64 p)) (hy:evo F y=some (.int .i64 q)) (hr : -9223372036854775808≤p*q∧p*q≤9223372036854775807) (hd:Nat.blt d n=true) (k:∀ a w,St n ((d,.int .i64 (p*q))::F) w0 S M a w→wpList P ops Q rest a w):wpList P ops Q (⟨some d,.binOp .mul t x y t2,ty,pos,af,none⟩::rest) a w :=
 zM hs (by simp [execOp,hs.ev hx,hs.ev hy,binOp,eqGuard,Op.intArith,Op.intCmp,IntWalk.i64_in _ hr]) hd k
theorem zLU {x y:Operand} {kd:IntKind} {p q:Int} {t t2:TypeId} {d:Nat} {ty:TypeId} {pos:String} {af:Array Edge} (hs:St n F w0 S M a w) (hx:evo F x=some (.int kd p)) (hy:evo F y=some (.int kd q)) (hd:Nat.blt d n=true) (k:∀ a w,St n ((d,.bool (decide (p<q)))::F) w0 S M a w→wpList P ops Q rest a w):wpList P ops Q (⟨some d,.binOp .lss t x y t2,ty,pos,af,none⟩::rest) a w :=
 zM hs (by simp [execOp,hs.ev hx,hs.ev hy,binOp,eqGuard,Op.intArith,Op.intCmp]) hd k
theorem zJY {x y:Operand} {kd:IntKind} {p q:Int} {t t2:TypeId} {d:Nat} {ty:TypeId} {pos:String} {af:Array Edge} (hs:St n F w0 S M a w) (hx:evo F x=some (.int kd p)) (hy:evo F y=some (.int kd q)) (hd:Nat.blt d n=true) (k:∀ a w,St n ((d,.bool (decide (p≤q)))::F) w0 S M a w→wpList P ops Q rest a w):wpList P ops Q (⟨some d,.binOp .leq t x y t2,ty,pos,af,none⟩::rest) a w :=
 zM hs (by simp [execOp,hs.ev hx,hs.ev hy,binOp,eqGuard,Op.intArith,Op.intCmp]) hd k
theorem zKt {x y:Operand} {kd:IntKind} {p q:Int} {t t2:TypeId} {d:Nat} {ty:TypeId} {pos:String} {af:Array Edge} (hs:St n F w0 S M a w) (hx:evo F x=some (.int kd p)) (hy:evo F y=some (.int kd q)) (hd:Nat.blt d n=true) (k:∀ a w,St n ((d,.bool (decide (q<p)))::F) w0 S M a w→wpList P ops Q rest a w):wpList P ops Q (⟨some d,.binOp .gtr t x y t2,ty,pos,af,none⟩::rest) a w :=
 zM hs (by simp [execOp,hs.ev hx,hs.ev hy,binOp,eqGuard,Op.intArith,Op.intCmp]) hd k
theorem zNS {x y:Operand} {kd:IntKind} {p q:Int} {t t2:TypeId} {d:Nat} {ty:TypeId} {pos:String} {af:Array Edge} (hs:St n F w0 S M a w) (hx:evo F x=some (.int kd p)) (hy:evo F y=some (.int kd q)) (hd:Nat.blt d n=true) (k:∀ a w,St n ((d,.bool (decide (q≤p)))::F) w0 S M a w→wpList P ops Q rest a w):wpList P ops Q (⟨some d,.binOp .geq t x y t2,ty,pos,af,none⟩::rest) a w :=
 zM hs (by simp [execOp,hs.ev hx,hs.ev hy,binOp,eqGuard,Op.intArith,Op.intCmp]) hd k
theorem zCp {x y:Operand} {kd:IntKind} {p q:Int} {t t2:TypeId} {d:Nat} {ty:TypeId} {pos:String} {af:Array Edge} (hs:St n F w0 S M a w) (hx:evo F x=some (.int kd p)) (hy:evo F y=some (.int kd q)) (hd:Nat.blt d n=true) (k:∀ a w,St n ((d,.bool ((p==q)))::F) w0 S M a w→wpList P ops Q rest a w):wpList P ops Q (⟨some d,.binOp .eql t x y t2,ty,pos,af,none⟩::rest) a w :=
 zM hs (by simp [execOp,hs.ev hx,hs.ev hy,binOp,eqGuard,Op.intArith,Op.intCmp]) hd k
theorem zWb {x y:Operand} {kd:IntKind} {p q:Int} {t t2:TypeId} {d:Nat} {ty:TypeId} {pos:String} {af:Array Edge} (hs:St n F w0 S M a w) (hx:evo F x=some (.int kd p)) (hy:evo F y=some (.int kd q)) (hd:Nat.blt d n=true) (k:∀ a w,St n ((d,.bool (!(p==q)))::F) w0 S M a w→wpList P ops Q rest a w):wpList P ops Q (⟨some d,.binOp .neq t x y t2,ty,pos,af,none⟩::rest) a w :=
 zM hs (by simp [execOp,hs.ev hx,hs.ev hy,binOp,eqGuard,Op.intArith,Op.intCmp]<;>rfl) hd k
theorem za9 {x y:Operand} {p q:Bool} {t t2:TypeId} {d:Nat} {ty:TypeId} {pos:String} {af:Array Edge} (hs:St n F w0 S M a w) (hx:evo F x=some (.bool p)) (hy:evo F y=some (.bool q)) (ht:P.underlying t=some .bool) (hd:Nat.blt d n=true) (k:∀ a w,St n ((d,.bool ((p==q)))::F) w0 S M a w→wpList P ops Q rest a w):wpList P ops Q (⟨some d,.binOp .eql t x y t2,ty,pos,af,none⟩::rest) a w :=
 zM hs (by simp only [execOp,hs.ev hx,hs.ev hy,binOp,eqGuard,Op.equal];simp [zJ2 ht]) hd k
theorem zai {x y:Operand} {p q:Bool} {t t2:TypeId} {d:Nat} {ty:TypeId} {pos:String} {af:Array Edge} (hs:St n F w0 S M a w) (hx:evo F x=some (.bool p)) (hy:evo F y=some (.bool q)) (ht:P.underlying t=some .bool) (hd:Nat.blt d n=true) (k:∀ a w,St n ((d,.bool (!(p==q)))::F) w0 S M a w→wpList P ops Q rest a w):wpList P ops Q (⟨some d,.binOp .neq t x y t2,ty,pos,af,none⟩::rest) a w :=
 zM hs (by simp only [execOp,hs.ev hx,hs.ev hy,binOp,eqGuard,Op.equal];simp [zJ2 ht]) hd k
theorem zY7 {x y:Operand} {p q:Int} {t t2:TypeId} {d:Nat} {ty:TypeId} {pos:String} {af:Array Edge} (hs:St n F w0 S M a w) (hx:evo F x=some (.int .i64 p)) (hy:evo F y=some (.int .i64 q)) (hr:0≤p∧p≤9223372036854775807∧1≤q) (hd:Nat.blt d n=true) (k:∀ a w,St n ((d,.int .i64 (p/q))::F) w0 S M a w→wpList P ops Q rest a w):wpList P ops Q (⟨some d,.binOp .quo t x y t2,ty,pos,af,none⟩::rest) a w :=
 zM hs (by have h0:¬ q=0:=(by omega);simp [execOp,hs.ev hx,hs.ev hy,binOp,eqGuard,Op.intDiv,h0,IntWalk.i64_quo p q hr]) hd k
theorem zR {k:IntKind} (hk:k.signed=false) (z:Int):k.wrap z=((BitVec.ofInt k.bits z).toNat:Int):=by
 simp only [IntKind.wrap,hk,Bool.false_and,Bool.false_eq_true,if_false,BitVec.toNat_ofInt]
 have h2:(0:Int)<2 ^ k.bits:=Int.pow_pos (by omega)
 have:=Int.emod_nonneg z (Int.ne_of_gt h2)
 have e:(((2:Nat) ^ k.bits:Nat):Int)=(2:Int) ^ k.bits:=by simp
 rw [e]
 omega
theorem zZ {w:Nat} (x:BitVec w):BitVec.ofInt w (x.toNat:Int)=x:=by
 apply BitVec.eq_of_toNat_eq
 simp
theorem zZG (X Y:BitVec 8):IntKind.u8.wrap ((X.toNat:Int)+Y.toNat)=((X+Y).toNat:Int):=by
 rw [zR rfl]
 show ((BitVec.ofInt 8 ((X.toNat:Int)+Y.toNat)).toNat:Int)=_
 rw [BitVec.ofInt_add,zZ,zZ]
theorem zRr {x y:Operand} {p q:Int} {X Y:BitVec 8} {t t2:TypeId} {d:Nat} {ty:TypeId} {pos:String} {af:Array Edge} (hs:St n F w0 S M a w) (hx:evo F x=some (.int .u8 p)) (hp:p=(X.toNat:Int)) (hy:evo F y=some (.int .u8 q)) (hq:q=(Y.toNat:Int)) (hd:Nat.blt d n=true) (k:∀ a w,St n ((d,.int .u8 (((X+Y).toNat:Nat):Int))::F) w0 S M a w→wpList P ops Q rest a w):wpList P ops Q (⟨some d,.binOp .add t x y t2,ty,pos,af,none⟩::rest) a w :=
 zM hs (by simp [execOp,hs.ev hx,hs.ev hy,binOp,eqGuard,Op.intArith,hp,hq,-BitVec.toNat_add,-BitVec.toNat_sub,-BitVec.toNat_mul];exact zZG X Y) hd k
theorem zYC (X Y:BitVec 8):IntKind.u8.wrap ((X.toNat:Int)-Y.toNat)=((X-Y).toNat:Int):=by
 rw [zR rfl]
 show ((BitVec.ofInt 8 ((X.toNat:Int)-Y.toNat)).toNat:Int)=_
 rw [Int.sub_eq_add_neg,BitVec.ofInt_add,BitVec.ofInt_neg,zZ,zZ,BitVec.sub_eq_add_neg]
theorem zLf {x y:Operand} {p q:Int} {X Y:BitVec 8} {t t2:TypeId} {d:Nat} {ty:TypeId} {pos:String} {af:Array Edge} (hs:St n F w0 S M a w) (hx:evo F x=some (.int .u8 p)) (hp:p=(X.toNat:Int)) (hy:evo F y=some (.int .u8 q)) (hq:q=(Y.toNat:Int)) (hd:Nat.blt d n=true) (k:∀ a w,St n ((d,.int .u8 (((X-Y).toNat:Nat):Int))::F) w0 S M a w→wpList P ops Q rest a w):wpList P ops Q (⟨some d,.binOp .sub t x y t2,ty,pos,af,none⟩::rest) a w :=
 zM hs (by simp [execOp,hs.ev hx,hs.ev hy,binOp,eqGuard,Op.intArith,hp,hq,-BitVec.toNat_add,-BitVec.toNat_sub,-BitVec.toNat_mul];exact zYC X Y) hd k
theorem zW7 (X Y:BitVec 8):IntKind.u8.wrap ((X&&&Y).toNat:Int)=(((X&&&Y).toNat:Nat):Int):=by
 rw [zR rfl]
 show ((BitVec.ofInt 8 _).toNat:Int)=_
 rw [zZ]
theorem zK1 {x y:Operand} {p q:Int} {X Y:BitVec 8} {t t2:TypeId} {d:Nat} {ty:TypeId} {pos:String} {af:Array Edge} (hs:St n F w0 S M a w) (hx:evo F x=some (.int .u8 p)) (hp:p=(X.toNat:Int)) (hy:evo F y=some (.int .u8 q)) (hq:q=(Y.toNat:Int)) (hd:Nat.blt d n=true) (k:∀ a w,St n ((d,.int .u8 (((X&&&Y).toNat:Nat):Int))::F) w0 S M a w→wpList P ops Q rest a w):wpList P ops Q (⟨some d,.binOp .and t x y t2,ty,pos,af,none⟩::rest) a w :=
 zM hs (by simp only [execOp,hs.ev hx,hs.ev hy,binOp,eqGuard,Op.intBits,hp,hq];simp [IntKind.bits,zZ,-BitVec.toNat_and,-BitVec.toNat_or,-BitVec.toNat_xor,-BitVec.toNat_not];exact zW7 X Y) hd k
theorem zan (X Y:BitVec 8):IntKind.u8.wrap ((X|||Y).toNat:Int)=(((X|||Y).toNat:Nat):Int):=by
 rw [zR rfl]
 show ((BitVec.ofInt 8 _).toNat:Int)=_
 rw [zZ]
theorem zKA {x y:Operand} {p q:Int} {X Y:BitVec 8} {t t2:TypeId} {d:Nat} {ty:TypeId} {pos:String} {af:Array Edge} (hs:St n F w0 S M a w) (hx:evo F x=some (.int .u8 p)) (hp:p=(X.toNat:Int)) (hy:evo F y=some (.int .u8 q)) (hq:q=(Y.toNat:Int)) (hd:Nat.blt d n=true) (k:∀ a w,St n ((d,.int .u8 (((X|||Y).toNat:Nat):Int))::F) w0 S M a w→wpList P ops Q rest a w):wpList P ops Q (⟨some d,.binOp .or t x y t2,ty,pos,af,none⟩::rest) a w :=
 zM hs (by simp only [execOp,hs.ev hx,hs.ev hy,binOp,eqGuard,Op.intBits,hp,hq];simp [IntKind.bits,zZ,-BitVec.toNat_and,-BitVec.toNat_or,-BitVec.toNat_xor,-BitVec.toNat_not];exact zan X Y) hd k
theorem zOr (X Y:BitVec 8):IntKind.u8.wrap ((X &&& ~~~Y).toNat:Int)=(((X &&& ~~~Y).toNat:Nat):Int):=by
 rw [zR rfl]
 show ((BitVec.ofInt 8 _).toNat:Int)=_
 rw [zZ]
theorem zEw {x y:Operand} {p q:Int} {X Y:BitVec 8} {t t2:TypeId} {d:Nat} {ty:TypeId} {pos:String} {af:Array Edge} (hs:St n F w0 S M a w) (hx:evo F x=some (.int .u8 p)) (hp:p=(X.toNat:Int)) (hy:evo F y=some (.int .u8 q)) (hq:q=(Y.toNat:Int)) (hd:Nat.blt d n=true) (k:∀ a w,St n ((d,.int .u8 (((X &&& ~~~Y).toNat:Nat):Int))::F) w0 S M a w→wpList P ops Q rest a w):wpList P ops Q (⟨some d,.binOp .andNot t x y t2,ty,pos,af,none⟩::rest) a w :=
 zM hs (by simp only [execOp,hs.ev hx,hs.ev hy,binOp,eqGuard,Op.intBits,hp,hq];simp [IntKind.bits,zZ,-BitVec.toNat_and,-BitVec.toNat_or,-BitVec.toNat_xor,-BitVec.toNat_not];exact zOr X Y) hd k
theorem zbE (X:BitVec 8) (m:Nat):IntKind.u8.wrap ((X.toNat:Int)*2 ^ (min m IntKind.u8.bits))=((X<<<m).toNat:Int):=by
 rw [zR rfl]
 show ((BitVec.ofInt 8 _).toNat:Int)=_
 have e:(X.toNat:Int)*2 ^ (min m IntKind.u8.bits)=((X.toNat*2 ^ (min m 8):Nat):Int):=by simp [IntKind.bits]
 rw [e,BitVec.ofInt_natCast]
 congr 1
 simp only [BitVec.toNat_ofNat,BitVec.toNat_shiftLeft,Nat.shiftLeft_eq]
 rcases Nat.le_total m 8 with h | h
 ·rw [Nat.min_eq_left h]
 ·rw [Nat.min_eq_right h]
  obtain ⟨c,rfl⟩:=Nat.exists_eq_add_of_le h
  rw [Nat.pow_add,← Nat.mul_assoc,Nat.mul_right_comm]
  simp
theorem zbP (X:BitVec 8) (m:Nat):(X.toNat:Int).fdiv (2 ^ (min m IntKind.u8.bits))=((X>>>m).toNat:Int):=by
 have e:(2:Int) ^ (min m IntKind.u8.bits)=((2 ^ (min m 8):Nat):Int):=by simp [IntKind.bits]
 rw [e,Int.fdiv_eq_ediv_of_nonneg _ (Int.natCast_nonneg _),← Int.natCast_ediv]
 congr 1
 simp only [BitVec.toNat_ushiftRight,Nat.shiftRight_eq_div_pow]
 rcases Nat.le_total m 8 with h | h
 · rw [Nat.min_eq_left h]
 · rw [Nat.min_eq_right h,Nat.div_eq_of_lt X.isLt,Nat.div_eq_of_lt (Nat.lt_of_lt_of_le X.isLt (Nat.pow_le_pow_right (by omega) h))]
theorem zQg {x y:Operand} {p q:Int} {kd:IntKind} {X:BitVec 8} {t t2:TypeId} {d:Nat} {ty:TypeId} {pos:String} {af:Array Edge} (hs:St n F w0 S M a w) (hx:evo F x=some (.int .u8 p)) (hp:p=(X.toNat:Int)) (hy:evo F y=some (.int kd q)) {m:Nat} (hm:q=(m:Int)) (hd:Nat.blt d n=true) (k:∀ a w,St n ((d,.int .u8 (((X<<<m).toNat:Nat):Int))::F) w0 S M a w→wpList P ops Q rest a w):wpList P ops Q (⟨some d,.binOp .shl t x y t2,ty,pos,af,none⟩::rest) a w :=
 zM hs (by subst hm;have h1:¬ (m:Int)<0:=(by omega);simp only [execOp,hs.ev hx,hs.ev hy,binOp,eqGuard,Op.shift,hp,h1];simp [-BitVec.toNat_shiftLeft];exact zbE X m) hd k
theorem zPs {x y:Operand} {p q:Int} {kd:IntKind} {X:BitVec 8} {t t2:TypeId} {d:Nat} {ty:TypeId} {pos:String} {af:Array Edge} (hs:St n F w0 S M a w) (hx:evo F x=some (.int .u8 p)) (hp:p=(X.toNat:Int)) (hy:evo F y=some (.int kd q)) {m:Nat} (hm:q=(m:Int)) (hd:Nat.blt d n=true) (k:∀ a w,St n ((d,.int .u8 (((X>>>m).toNat:Nat):Int))::F) w0 S M a w→wpList P ops Q rest a w):wpList P ops Q (⟨some d,.binOp .shr t x y t2,ty,pos,af,none⟩::rest) a w :=
 zM hs (by subst hm;have h1:¬ (m:Int)<0:=(by omega);simp only [execOp,hs.ev hx,hs.ev hy,binOp,eqGuard,Op.shift,hp,h1];simp [-BitVec.toNat_ushiftRight];exact zbP X m) hd k
theorem zTt (X Y:BitVec 16):IntKind.u16.wrap ((X.toNat:Int)+Y.toNat)=((X+Y).toNat:Int):=by
 rw [zR rfl]
 show ((BitVec.ofInt 16 ((X.toNat:Int)+Y.toNat)).toNat:Int)=_
 rw [BitVec.ofInt_add,zZ,zZ]
theorem zI7 {x y:Operand} {p q:Int} {X Y:BitVec 16} {t t2:TypeId} {d:Nat} {ty:TypeId} {pos:String} {af:Array Edge} (hs:St n F w0 S M a w) (hx:evo F x=some (.int .u16 p)) (hp:p=(X.toNat:Int)) (hy:evo F y=some (.int .u16 q)) (hq:q=(Y.toNat:Int)) (hd:Nat.blt d n=true) (k:∀ a w,St n ((d,.int .u16 (((X+Y).toNat:Nat):Int))::F) w0 S M a w→wpList P ops Q rest a w):wpList P ops Q (⟨some d,.binOp .add t x y t2,ty,pos,af,none⟩::rest) a w :=
 zM hs (by simp [execOp,hs.ev hx,hs.ev hy,binOp,eqGuard,Op.intArith,hp,hq,-BitVec.toNat_add,-BitVec.toNat_sub,-BitVec.toNat_mul];exact zTt X Y) hd k
theorem zUZ (X Y:BitVec 16):IntKind.u16.wrap ((X.toNat:Int)-Y.toNat)=((X-Y).toNat:Int):=by
 rw [zR rfl]
 show ((BitVec.ofInt 16 ((X.toNat:Int)-Y.toNat)).toNat:Int)=_
 rw [Int.sub_eq_add_neg,BitVec.ofInt_add,BitVec.ofInt_neg,zZ,zZ,BitVec.sub_eq_add_neg]
theorem zJQ {x y:Operand} {p q:Int} {X Y:BitVec 16} {t t2:TypeId} {d:Nat} {ty:TypeId} {pos:String} {af:Array Edge} (hs:St n F w0 S M a w) (hx:evo F x=some (.int .u16 p)) (hp:p=(X.toNat:Int)) (hy:evo F y=some (.int .u16 q)) (hq:q=(Y.toNat:Int)) (hd:Nat.blt d n=true) (k:∀ a w,St n ((d,.int .u16 (((X-Y).toNat:Nat):Int))::F) w0 S M a w→wpList P ops Q rest a w):wpList P ops Q (⟨some d,.binOp .sub t x y t2,ty,pos,af,none⟩::rest) a w :=
 zM hs (by simp [execOp,hs.ev hx,hs.ev hy,binOp,eqGuard,Op.intArith,hp,hq,-BitVec.toNat_add,-BitVec.toNat_sub,-BitVec.toNat_mul];exact zUZ X Y) hd k
theorem zVO (X Y:BitVec 32):IntKind.u32.wrap ((X&&&Y).toNat:Int)=(((X&&&Y).toNat:Nat):Int):=by
 rw [zR rfl]
 show ((BitVec.ofInt 32 _).toNat:Int)=_
 rw [zZ]
theorem zJS {x y:Operand} {p q:Int} {X Y:BitVec 32} {t t2:TypeId} {d:Nat} {ty:TypeId} {pos:String} {af:Array Edge} (hs:St n F w0 S M a w) (hx:evo F x=some (.int .u32 p)) (hp:p=(X.toNat:Int)) (hy:evo F y=some (.int .u32 q)) (hq:q=(Y.toNat:Int)) (hd:Nat.blt d n=true) (k:∀ a w,St n ((d,.int .u32 (((X&&&Y).toNat:Nat):Int))::F) w0 S M a w→wpList P ops Q rest a w):wpList P ops Q (⟨some d,.binOp .and t x y t2,ty,pos,af,none⟩::rest) a w :=
 zM hs (by simp only [execOp,hs.ev hx,hs.ev hy,binOp,eqGuard,Op.intBits,hp,hq];simp [IntKind.bits,zZ,-BitVec.toNat_and,-BitVec.toNat_or,-BitVec.toNat_xor,-BitVec.toNat_not];exact zVO X Y) hd k
theorem zXZ (X Y:BitVec 32):IntKind.u32.wrap ((X|||Y).toNat:Int)=(((X|||Y).toNat:Nat):Int):=by
 rw [zR rfl]
 show ((BitVec.ofInt 32 _).toNat:Int)=_
 rw [zZ]
theorem zP1 {x y:Operand} {p q:Int} {X Y:BitVec 32} {t t2:TypeId} {d:Nat} {ty:TypeId} {pos:String} {af:Array Edge} (hs:St n F w0 S M a w) (hx:evo F x=some (.int .u32 p)) (hp:p=(X.toNat:Int)) (hy:evo F y=some (.int .u32 q)) (hq:q=(Y.toNat:Int)) (hd:Nat.blt d n=true) (k:∀ a w,St n ((d,.int .u32 (((X|||Y).toNat:Nat):Int))::F) w0 S M a w→wpList P ops Q rest a w):wpList P ops Q (⟨some d,.binOp .or t x y t2,ty,pos,af,none⟩::rest) a w :=
 zM hs (by simp only [execOp,hs.ev hx,hs.ev hy,binOp,eqGuard,Op.intBits,hp,hq];simp [IntKind.bits,zZ,-BitVec.toNat_and,-BitVec.toNat_or,-BitVec.toNat_xor,-BitVec.toNat_not];exact zXZ X Y) hd k
theorem zUW (X Y:BitVec 32):IntKind.u32.wrap ((X^^^Y).toNat:Int)=(((X^^^Y).toNat:Nat):Int):=by
 rw [zR rfl]
 show ((BitVec.ofInt 32 _).toNat:Int)=_
 rw [zZ]
theorem zJD {x y:Operand} {p q:Int} {X Y:BitVec 32} {t t2:TypeId} {d:Nat} {ty:TypeId} {pos:String} {af:Array Edge} (hs:St n F w0 S M a w) (hx:evo F x=some (.int .u32 p)) (hp:p=(X.toNat:Int)) (hy:evo F y=some (.int .u32 q)) (hq:q=(Y.toNat:Int)) (hd:Nat.blt d n=true) (k:∀ a w,St n ((d,.int .u32 (((X^^^Y).toNat:Nat):Int))::F) w0 S M a w→wpList P ops Q rest a w):wpList P ops Q (⟨some d,.binOp .xor t x y t2,ty,pos,af,none⟩::rest) a w :=
 zM hs (by simp only [execOp,hs.ev hx,hs.ev hy,binOp,eqGuard,Op.intBits,hp,hq];simp [IntKind.bits,zZ,-BitVec.toNat_and,-BitVec.toNat_or,-BitVec.toNat_xor,-BitVec.toNat_not];exact zUW X Y) hd k
theorem zYM (X:BitVec 32) (m:Nat):IntKind.u32.wrap ((X.toNat:Int)*2 ^ (min m IntKind.u32.bits))=((X<<<m).toNat:Int):=by
 rw [zR rfl]
 show ((BitVec.ofInt 32 _).toNat:Int)=_
 have e:(X.toNat:Int)*2 ^ (min m IntKind.u32.bits)=((X.toNat*2 ^ (min m 32):Nat):Int):=by simp [IntKind.bits]
 rw [e,BitVec.ofInt_natCast]
 congr 1
 simp only [BitVec.toNat_ofNat,BitVec.toNat_shiftLeft,Nat.shiftLeft_eq]
 rcases Nat.le_total m 32 with h | h
 ·rw [Nat.min_eq_left h]
 ·rw [Nat.min_eq_right h]
  obtain ⟨c,rfl⟩:=Nat.exists_eq_add_of_le h
  rw [Nat.pow_add,← Nat.mul_assoc,Nat.mul_right_comm]
  simp
theorem zZT (X:BitVec 32) (m:Nat):(X.toNat:Int).fdiv (2 ^ (min m IntKind.u32.bits))=((X>>>m).toNat:Int):=by
 have e:(2:Int) ^ (min m IntKind.u32.bits)=((2 ^ (min m 32):Nat):Int):=by simp [IntKind.bits]
 rw [e,Int.fdiv_eq_ediv_of_nonneg _ (Int.natCast_nonneg _),← Int.natCast_ediv]
 congr 1
 simp only [BitVec.toNat_ushiftRight,Nat.shiftRight_eq_div_pow]
 rcases Nat.le_total m 32 with h | h
 · rw [Nat.min_eq_left h]
 · rw [Nat.min_eq_right h,Nat.div_eq_of_lt X.isLt,Nat.div_eq_of_lt (Nat.lt_of_lt_of_le X.isLt (Nat.pow_le_pow_right (by omega) h))]
theorem zPg {x y:Operand} {p q:Int} {kd:IntKind} {X:BitVec 32} {t t2:TypeId} {d:Nat} {ty:TypeId} {pos:String} {af:Array Edge} (hs:St n F w0 S M a w) (hx:evo F x=some (.int .u32 p)) (hp:p=(X.toNat:Int)) (hy:evo F y=some (.int kd q)) {m:Nat} (hm:q=(m:Int)) (hd:Nat.blt d n=true) (k:∀ a w,St n ((d,.int .u32 (((X<<<m).toNat:Nat):Int))::F) w0 S M a w→wpList P ops Q rest a w):wpList P ops Q (⟨some d,.binOp .shl t x y t2,ty,pos,af,none⟩::rest) a w :=
 zM hs (by subst hm;have h1:¬ (m:Int)<0:=(by omega);simp only [execOp,hs.ev hx,hs.ev hy,binOp,eqGuard,Op.shift,hp,h1];simp [-BitVec.toNat_shiftLeft];exact zYM X m) hd k
theorem zFC {x y:Operand} {p q:Int} {kd:IntKind} {X:BitVec 32} {t t2:TypeId} {d:Nat} {ty:TypeId} {pos:String} {af:Array Edge} (hs:St n F w0 S M a w) (hx:evo F x=some (.int .u32 p)) (hp:p=(X.toNat:Int)) (hy:evo F y=some (.int kd q)) {m:Nat} (hm:q=(m:Int)) (hd:Nat.blt d n=true) (k:∀ a w,St n ((d,.int .u32 (((X>>>m).toNat:Nat):Int))::F) w0 S M a w→wpList P ops Q rest a w):wpList P ops Q (⟨some d,.binOp .shr t x y t2,ty,pos,af,none⟩::rest) a w :=
 zM hs (by subst hm;have h1:¬ (m:Int)<0:=(by omega);simp only [execOp,hs.ev hx,hs.ev hy,binOp,eqGuard,Op.shift,hp,h1];simp [-BitVec.toNat_ushiftRight];exact zZT X m) hd k
theorem zTs (X:BitVec 32):IntKind.u32.wrap (0-(X.toNat:Int))=((-X).toNat:Int):=by
 rw [zR rfl]
 show ((BitVec.ofInt 32 _).toNat:Int)=_
 rw [Int.zero_sub,BitVec.ofInt_neg,zZ]
theorem zPB {x:Operand} {p:Int} {X:BitVec 32} {t:TypeId} {d:Nat} {ty:TypeId} {pos:String} {af:Array Edge} (hs:St n F w0 S M a w) (hx:evo F x=some (.int .u32 p)) (hp:p=(X.toNat:Int)) (hd:Nat.blt d n=true) (k:∀ a w,St n ((d,.int .u32 (((-X).toNat:Nat):Int))::F) w0 S M a w→wpList P ops Q rest a w):wpList P ops Q (⟨some d,.unOp .neg t x,ty,pos,af,none⟩::rest) a w :=
 zM hs (by simp only [execOp,hs.ev hx,Op.unary,Op.intArith,hp];simp [-BitVec.toNat_neg,-Int.zero_sub];exact zTs X) hd k
theorem zV3 (X:BitVec 32):IntKind.u32.wrap ((BitVec.ofInt 32 IntKind.u32.max^^^BitVec.ofInt 32 (X.toNat:Int)).toNat:Int)=((~~~X).toNat:Int):=by
 rw [zR rfl]
 show ((BitVec.ofInt 32 _).toNat:Int)=_
 rw [zZ,zZ]
 have e:BitVec.ofInt 32 IntKind.u32.max=BitVec.allOnes 32:=by decide
 rw [e,BitVec.allOnes_xor]
theorem zJd {x:Operand} {p:Int} {X:BitVec 32} {t:TypeId} {d:Nat} {ty:TypeId} {pos:String} {af:Array Edge} (hs:St n F w0 S M a w) (hx:evo F x=some (.int .u32 p)) (hp:p=(X.toNat:Int)) (hd:Nat.blt d n=true) (k:∀ a w,St n ((d,.int .u32 (((~~~X).toNat:Nat):Int))::F) w0 S M a w→wpList P ops Q rest a w):wpList P ops Q (⟨some d,.unOp .xor t x,ty,pos,af,none⟩::rest) a w :=
 zM hs (by simp only [execOp,hs.ev hx,Op.unary,Op.intBits,hp];simp [-BitVec.toNat_not,-BitVec.toNat_xor,IntKind.signed,-BitVec.ofInt_natCast];exact zV3 X) hd k
theorem zV4 (X Y:BitVec 64):IntKind.u64.wrap ((X.toNat:Int)+Y.toNat)=((X+Y).toNat:Int):=by
 rw [zR rfl]
 show ((BitVec.ofInt 64 ((X.toNat:Int)+Y.toNat)).toNat:Int)=_
 rw [BitVec.ofInt_add,zZ,zZ]
theorem zAo {x y:Operand} {p q:Int} {X Y:BitVec 64} {t t2:TypeId} {d:Nat} {ty:TypeId} {pos:String} {af:Array Edge} (hs:St n F w0 S M a w) (hx:evo F x=some (.int .u64 p)) (hp:p=(X.toNat:Int)) (hy:evo F y=some (.int .u64 q)) (hq:q=(Y.toNat:Int)) (hd:Nat.blt d n=true) (k:∀ a w,St n ((d,.int .u64 (((X+Y).toNat:Nat):Int))::F) w0 S M a w→wpList P ops Q rest a w):wpList P ops Q (⟨some d,.binOp .add t x y t2,ty,pos,af,none⟩::rest) a w :=
 zM hs (by simp [execOp,hs.ev hx,hs.ev hy,binOp,eqGuard,Op.intArith,hp,hq,-BitVec.toNat_add,-BitVec.toNat_sub,-BitVec.toNat_mul];exact zV4 X Y) hd k
theorem zVK (X Y:BitVec 64):IntKind.u64.wrap ((X.toNat:Int)-Y.toNat)=((X-Y).toNat:Int):=by
 rw [zR rfl]
 show ((BitVec.ofInt 64 ((X.toNat:Int)-Y.toNat)).toNat:Int)=_
 rw [Int.sub_eq_add_neg,BitVec.ofInt_add,BitVec.ofInt_neg,zZ,zZ,BitVec.sub_eq_add_neg]
theorem zBy {x y:Operand} {p q:Int} {X Y:BitVec 64} {t t2:TypeId} {d:Nat} {ty:TypeId} {pos:String} {af:Array Edge} (hs:St n F w0 S M a w) (hx:evo F x=some (.int .u64 p)) (hp:p=(X.toNat:Int)) (hy:evo F y=some (.int .u64 q)) (hq:q=(Y.toNat:Int)) (hd:Nat.blt d n=true) (k:∀ a w,St n ((d,.int .u64 (((X-Y).toNat:Nat):Int))::F) w0 S M a w→wpList P ops Q rest a w):wpList P ops Q (⟨some d,.binOp .sub t x y t2,ty,pos,af,none⟩::rest) a w :=
 zM hs (by simp [execOp,hs.ev hx,hs.ev hy,binOp,eqGuard,Op.intArith,hp,hq,-BitVec.toNat_add,-BitVec.toNat_sub,-BitVec.toNat_mul];exact zVK X Y) hd k
theorem zUQ (X Y:BitVec 64):IntKind.u64.wrap ((X.toNat:Int)*Y.toNat)=((X*Y).toNat:Int):=by
 rw [zR rfl]
 show ((BitVec.ofInt 64 ((X.toNat:Int)*Y.toNat)).toNat:Int)=_
 rw [BitVec.ofInt_mul,zZ,zZ]
theorem zAn {x y:Operand} {p q:Int} {X Y:BitVec 64} {t t2:TypeId} {d:Nat} {ty:TypeId} {pos:String} {af:Array Edge} (hs:St n F w0 S M a w) (hx:evo F x=some (.int .u64 p)) (hp:p=(X.toNat:Int)) (hy:evo F y=some (.int .u64 q)) (hq:q=(Y.toNat:Int)) (hd:Nat.blt d n=true) (k:∀ a w,St n ((d,.int .u64 (((X*Y).toNat:Nat):Int))::F) w0 S M a w→wpList P ops Q rest a w):wpList P ops Q (⟨some d,.binOp .mul t x y t2,ty,pos,af,none⟩::rest) a w :=
 zM hs (by simp [execOp,hs.ev hx,hs.ev hy,binOp,eqGuard,Op.intArith,hp,hq,-BitVec.toNat_add,-BitVec.toNat_sub,-BitVec.toNat_mul];exact zUQ X Y) hd k
theorem zWC (X Y:BitVec 64):IntKind.u64.wrap ((X&&&Y).toNat:Int)=(((X&&&Y).toNat:Nat):Int):=by
 rw [zR rfl]
 show ((BitVec.ofInt 64 _).toNat:Int)=_
 rw [zZ]
theorem zDE {x y:Operand} {p q:Int} {X Y:BitVec 64} {t t2:TypeId} {d:Nat} {ty:TypeId} {pos:String} {af:Array Edge} (hs:St n F w0 S M a w) (hx:evo F x=some (.int .u64 p)) (hp:p=(X.toNat:Int)) (hy:evo F y=some (.int .u64 q)) (hq:q=(Y.toNat:Int)) (hd:Nat.blt d n=true) (k:∀ a w,St n ((d,.int .u64 (((X&&&Y).toNat:Nat):Int))::F) w0 S M a w→wpList P ops Q rest a w):wpList P ops Q (⟨some d,.binOp .and t x y t2,ty,pos,af,none⟩::rest) a w :=
 zM hs (by simp only [execOp,hs.ev hx,hs.ev hy,binOp,eqGuard,Op.intBits,hp,hq];simp [IntKind.bits,zZ,-BitVec.toNat_and,-BitVec.toNat_or,-BitVec.toNat_xor,-BitVec.toNat_not];exact zWC X Y) hd k
theorem zYJ (X Y:BitVec 64):IntKind.u64.wrap ((X|||Y).toNat:Int)=(((X|||Y).toNat:Nat):Int):=by
 rw [zR rfl]
 show ((BitVec.ofInt 64 _).toNat:Int)=_
 rw [zZ]
theorem zGS {x y:Operand} {p q:Int} {X Y:BitVec 64} {t t2:TypeId} {d:Nat} {ty:TypeId} {pos:String} {af:Array Edge} (hs:St n F w0 S M a w) (hx:evo F x=some (.int .u64 p)) (hp:p=(X.toNat:Int)) (hy:evo F y=some (.int .u64 q)) (hq:q=(Y.toNat:Int)) (hd:Nat.blt d n=true) (k:∀ a w,St n ((d,.int .u64 (((X|||Y).toNat:Nat):Int))::F) w0 S M a w→wpList P ops Q rest a w):wpList P ops Q (⟨some d,.binOp .or t x y t2,ty,pos,af,none⟩::rest) a w :=
 zM hs (by simp only [execOp,hs.ev hx,hs.ev hy,binOp,eqGuard,Op.intBits,hp,hq];simp [IntKind.bits,zZ,-BitVec.toNat_and,-BitVec.toNat_or,-BitVec.toNat_xor,-BitVec.toNat_not];exact zYJ X Y) hd k
theorem zTc (X Y:BitVec 64):IntKind.u64.wrap ((X^^^Y).toNat:Int)=(((X^^^Y).toNat:Nat):Int):=by
 rw [zR rfl]
 show ((BitVec.ofInt 64 _).toNat:Int)=_
 rw [zZ]
theorem zOz {x y:Operand} {p q:Int} {X Y:BitVec 64} {t t2:TypeId} {d:Nat} {ty:TypeId} {pos:String} {af:Array Edge} (hs:St n F w0 S M a w) (hx:evo F x=some (.int .u64 p)) (hp:p=(X.toNat:Int)) (hy:evo F y=some (.int .u64 q)) (hq:q=(Y.toNat:Int)) (hd:Nat.blt d n=true) (k:∀ a w,St n ((d,.int .u64 (((X^^^Y).toNat:Nat):Int))::F) w0 S M a w→wpList P ops Q rest a w):wpList P ops Q (⟨some d,.binOp .xor t x y t2,ty,pos,af,none⟩::rest) a w :=
 zM hs (by simp only [execOp,hs.ev hx,hs.ev hy,binOp,eqGuard,Op.intBits,hp,hq];simp [IntKind.bits,zZ,-BitVec.toNat_and,-BitVec.toNat_or,-BitVec.toNat_xor,-BitVec.toNat_not];exact zTc X Y) hd k
theorem zX5 (X:BitVec 64) (m:Nat):IntKind.u64.wrap ((X.toNat:Int)*2 ^ (min m IntKind.u64.bits))=((X<<<m).toNat:Int):=by
 rw [zR rfl]
 show ((BitVec.ofInt 64 _).toNat:Int)=_
 have e:(X.toNat:Int)*2 ^ (min m IntKind.u64.bits)=((X.toNat*2 ^ (min m 64):Nat):Int):=by simp [IntKind.bits]
 rw [e,BitVec.ofInt_natCast]
 congr 1
 simp only [BitVec.toNat_ofNat,BitVec.toNat_shiftLeft,Nat.shiftLeft_eq]
 rcases Nat.le_total m 64 with h | h
 ·rw [Nat.min_eq_left h]
 ·rw [Nat.min_eq_right h]
  obtain ⟨c,rfl⟩:=Nat.exists_eq_add_of_le h
  rw [Nat.pow_add,← Nat.mul_assoc,Nat.mul_right_comm]
  simp
theorem zYE (X:BitVec 64) (m:Nat):(X.toNat:Int).fdiv (2 ^ (min m IntKind.u64.bits))=((X>>>m).toNat:Int):=by
 have e:(2:Int) ^ (min m IntKind.u64.bits)=((2 ^ (min m 64):Nat):Int):=by simp [IntKind.bits]
 rw [e,Int.fdiv_eq_ediv_of_nonneg _ (Int.natCast_nonneg _),← Int.natCast_ediv]
 congr 1
 simp only [BitVec.toNat_ushiftRight,Nat.shiftRight_eq_div_pow]
 rcases Nat.le_total m 64 with h | h
 · rw [Nat.min_eq_left h]
 · rw [Nat.min_eq_right h,Nat.div_eq_of_lt X.isLt,Nat.div_eq_of_lt (Nat.lt_of_lt_of_le X.isLt (Nat.pow_le_pow_right (by omega) h))]
theorem zDF {x y:Operand} {p q:Int} {kd:IntKind} {X:BitVec 64} {t t2:TypeId} {d:Nat} {ty:TypeId} {pos:String} {af:Array Edge} (hs:St n F w0 S M a w) (hx:evo F x=some (.int .u64 p)) (hp:p=(X.toNat:Int)) (hy:evo F y=some (.int kd q)) {m:Nat} (hm:q=(m:Int)) (hd:Nat.blt d n=true) (k:∀ a w,St n ((d,.int .u64 (((X<<<m).toNat:Nat):Int))::F) w0 S M a w→wpList P ops Q rest a w):wpList P ops Q (⟨some d,.binOp .shl t x y t2,ty,pos,af,none⟩::rest) a w :=
 zM hs (by subst hm;have h1:¬ (m:Int)<0:=(by omega);simp only [execOp,hs.ev hx,hs.ev hy,binOp,eqGuard,Op.shift,hp,h1];simp [-BitVec.toNat_shiftLeft];exact zX5 X m) hd k
theorem zAT {x y:Operand} {p q:Int} {kd:IntKind} {X:BitVec 64} {t t2:TypeId} {d:Nat} {ty:TypeId} {pos:String} {af:Array Edge} (hs:St n F w0 S M a w) (hx:evo F x=some (.int .u64 p)) (hp:p=(X.toNat:Int)) (hy:evo F y=some (.int kd q)) {m:Nat} (hm:q=(m:Int)) (hd:Nat.blt d n=true) (k:∀ a w,St n ((d,.int .u64 (((X>>>m).toNat:Nat):Int))::F) w0 S M a w→wpList P ops Q rest a w):wpList P ops Q (⟨some d,.binOp .shr t x y t2,ty,pos,af,none⟩::rest) a w :=
 zM hs (by subst hm;have h1:¬ (m:Int)<0:=(by omega);simp only [execOp,hs.ev hx,hs.ev hy,binOp,eqGuard,Op.shift,hp,h1];simp [-BitVec.toNat_ushiftRight];exact zYE X m) hd k
theorem zUt (X:BitVec 64):IntKind.u64.wrap (0-(X.toNat:Int))=((-X).toNat:Int):=by
 rw [zR rfl]
 show ((BitVec.ofInt 64 _).toNat:Int)=_
 rw [Int.zero_sub,BitVec.ofInt_neg,zZ]
theorem zFF {x:Operand} {p:Int} {X:BitVec 64} {t:TypeId} {d:Nat} {ty:TypeId} {pos:String} {af:Array Edge} (hs:St n F w0 S M a w) (hx:evo F x=some (.int .u64 p)) (hp:p=(X.toNat:Int)) (hd:Nat.blt d n=true) (k:∀ a w,St n ((d,.int .u64 (((-X).toNat:Nat):Int))::F) w0 S M a w→wpList P ops Q rest a w):wpList P ops Q (⟨some d,.unOp .neg t x,ty,pos,af,none⟩::rest) a w :=
 zM hs (by simp only [execOp,hs.ev hx,Op.unary,Op.intArith,hp];simp [-BitVec.toNat_neg,-Int.zero_sub];exact zUt X) hd k
theorem zUa (X Y:BitVec 64):IntKind.u64.wrap ((X.toNat:Int).tdiv (Y.toNat:Int))=((X/Y).toNat:Int):=by
 rw [Int.tdiv_eq_ediv_of_nonneg (by omega),← Int.natCast_ediv,← BitVec.toNat_udiv,zR rfl]
 show ((BitVec.ofInt 64 _).toNat:Int)=_
 rw [zZ]
theorem zGn {x y:Operand} {p q:Int} {X Y:BitVec 64} {t t2:TypeId} {d:Nat} {ty:TypeId} {pos:String} {af:Array Edge} (hs:St n F w0 S M a w) (hx:evo F x=some (.int .u64 p)) (hp:p=(X.toNat:Int)) (hy:evo F y=some (.int .u64 q)) (hq:q=(Y.toNat:Int)) (h0:Y≠0) (hd:Nat.blt d n=true) (k:∀ a w,St n ((d,.int .u64 (((X/Y).toNat:Nat):Int))::F) w0 S M a w→wpList P ops Q rest a w):wpList P ops Q (⟨some d,.binOp .quo t x y t2,ty,pos,af,none⟩::rest) a w :=
 zM hs (by have h1:¬ (Y.toNat:Int)=0:=λe=>h0 (BitVec.eq_of_toNat_eq (by simpa using Int.natCast_eq_zero.1 e));simp only [execOp,hs.ev hx,hs.ev hy,binOp,eqGuard,Op.intDiv,hp,hq,h1];simp [-BitVec.toNat_udiv,-BitVec.toNat_umod];exact zUa X Y) hd k
theorem zTj (X Y:BitVec 64):(X.toNat:Int).tmod (Y.toNat:Int)=((X%Y).toNat:Int):=by
 rw [Int.tmod_eq_emod_of_nonneg (by omega),← Int.natCast_emod,← BitVec.toNat_umod]
theorem zO6 {x y:Operand} {p q:Int} {X Y:BitVec 64} {t t2:TypeId} {d:Nat} {ty:TypeId} {pos:String} {af:Array Edge} (hs:St n F w0 S M a w) (hx:evo F x=some (.int .u64 p)) (hp:p=(X.toNat:Int)) (hy:evo F y=some (.int .u64 q)) (hq:q=(Y.toNat:Int)) (h0:Y≠0) (hd:Nat.blt d n=true) (k:∀ a w,St n ((d,.int .u64 (((X%Y).toNat:Nat):Int))::F) w0 S M a w→wpList P ops Q rest a w):wpList P ops Q (⟨some d,.binOp .rem t x y t2,ty,pos,af,none⟩::rest) a w :=
 zM hs (by have h1:¬ (Y.toNat:Int)=0:=λe=>h0 (BitVec.eq_of_toNat_eq (by simpa using Int.natCast_eq_zero.1 e));simp only [execOp,hs.ev hx,hs.ev hy,binOp,eqGuard,Op.intDiv,hp,hq,h1];simp [-BitVec.toNat_udiv,-BitVec.toNat_umod];exact zTj X Y) hd k
theorem zTm {x:Operand} {p:Int} {kd:IntKind} {t t2:TypeId} {ds:TypeDesc} {d:Nat} {ty:TypeId} {pos:String} {af:Array Edge} (hs:St n F w0 S M a w) (hx:evo F x=some (.int kd p))  (hsrc:P.underlying t=some ds) (hdst:P.underlying t2=some (.int .u8)) (hd:Nat.blt d n=true) (k:∀ a w,St n ((d,.int .u8 (((BitVec.ofInt 8 p).toNat:Nat):Int))::F) w0 S M a w→wpList P ops Q rest a w):wpList P ops Q (⟨some d,.convert t t2 x,ty,pos,af,none⟩::rest) a w :=
 zM hs (by simp only [execOp,hs.ev hx,convert,Sem.run_bind,run_underlying hsrc,run_underlying hdst,Conv.intToInt];simp [-BitVec.toNat_setWidth,-BitVec.toNat_ofInt];exact zR (k:=.u8) rfl p) hd k
theorem zPR (X:BitVec 32):IntKind.u8.wrap (X.toNat:Int)=((X.setWidth 8).toNat:Int):=by
 rw [zR rfl]
 show ((BitVec.ofInt 8 _).toNat:Int)=_
 rw [BitVec.ofInt_natCast]
 simp
theorem zDg {x:Operand} {p:Int} {kd:IntKind} {t t2:TypeId} {ds:TypeDesc} {X:BitVec 32} {d:Nat} {ty:TypeId} {pos:String} {af:Array Edge} (hs:St n F w0 S M a w) (hx:evo F x=some (.int kd p)) (hp:p=(X.toNat:Int)) (hsrc:P.underlying t=some ds) (hdst:P.underlying t2=some (.int .u8)) (hd:Nat.blt d n=true) (k:∀ a w,St n ((d,.int .u8 (((X.setWidth 8).toNat:Nat):Int))::F) w0 S M a w→wpList P ops Q rest a w):wpList P ops Q (⟨some d,.convert t t2 x,ty,pos,af,none⟩::rest) a w :=
 zM hs (by simp only [execOp,hs.ev hx,convert,Sem.run_bind,run_underlying hsrc,run_underlying hdst,Conv.intToInt];simp [-BitVec.toNat_setWidth,-BitVec.toNat_ofInt];rw [hp];exact zPR X) hd k
theorem zPE (X:BitVec 64):IntKind.u8.wrap (X.toNat:Int)=((X.setWidth 8).toNat:Int):=by
 rw [zR rfl]
 show ((BitVec.ofInt 8 _).toNat:Int)=_
 rw [BitVec.ofInt_natCast]
 simp
theorem zBJ {x:Operand} {p:Int} {kd:IntKind} {t t2:TypeId} {ds:TypeDesc} {X:BitVec 64} {d:Nat} {ty:TypeId} {pos:String} {af:Array Edge} (hs:St n F w0 S M a w) (hx:evo F x=some (.int kd p)) (hp:p=(X.toNat:Int)) (hsrc:P.underlying t=some ds) (hdst:P.underlying t2=some (.int .u8)) (hd:Nat.blt d n=true) (k:∀ a w,St n ((d,.int .u8 (((X.setWidth 8).toNat:Nat):Int))::F) w0 S M a w→wpList P ops Q rest a w):wpList P ops Q (⟨some d,.convert t t2 x,ty,pos,af,none⟩::rest) a w :=
 zM hs (by simp only [execOp,hs.ev hx,convert,Sem.run_bind,run_underlying hsrc,run_underlying hdst,Conv.intToInt];simp [-BitVec.toNat_setWidth,-BitVec.toNat_ofInt];rw [hp];exact zPE X) hd k
theorem zQe {x:Operand} {p:Int} {kd:IntKind} {t t2:TypeId} {ds:TypeDesc} {d:Nat} {ty:TypeId} {pos:String} {af:Array Edge} (hs:St n F w0 S M a w) (hx:evo F x=some (.int kd p))  (hsrc:P.underlying t=some ds) (hdst:P.underlying t2=some (.int .u16)) (hd:Nat.blt d n=true) (k:∀ a w,St n ((d,.int .u16 (((BitVec.ofInt 16 p).toNat:Nat):Int))::F) w0 S M a w→wpList P ops Q rest a w):wpList P ops Q (⟨some d,.convert t t2 x,ty,pos,af,none⟩::rest) a w :=
 zM hs (by simp only [execOp,hs.ev hx,convert,Sem.run_bind,run_underlying hsrc,run_underlying hdst,Conv.intToInt];simp [-BitVec.toNat_setWidth,-BitVec.toNat_ofInt];exact zR (k:=.u16) rfl p) hd k
theorem zM6 (X:BitVec 64):IntKind.u16.wrap (X.toNat:Int)=((X.setWidth 16).toNat:Int):=by
 rw [zR rfl]
 show ((BitVec.ofInt 16 _).toNat:Int)=_
 rw [BitVec.ofInt_natCast]
 simp
theorem zGD {x:Operand} {p:Int} {kd:IntKind} {t t2:TypeId} {ds:TypeDesc} {X:BitVec 64} {d:Nat} {ty:TypeId} {pos:String} {af:Array Edge} (hs:St n F w0 S M a w) (hx:evo F x=some (.int kd p)) (hp:p=(X.toNat:Int)) (hsrc:P.underlying t=some ds) (hdst:P.underlying t2=some (.int .u16)) (hd:Nat.blt d n=true) (k:∀ a w,St n ((d,.int .u16 (((X.setWidth 16).toNat:Nat):Int))::F) w0 S M a w→wpList P ops Q rest a w):wpList P ops Q (⟨some d,.convert t t2 x,ty,pos,af,none⟩::rest) a w :=
 zM hs (by simp only [execOp,hs.ev hx,convert,Sem.run_bind,run_underlying hsrc,run_underlying hdst,Conv.intToInt];simp [-BitVec.toNat_setWidth,-BitVec.toNat_ofInt];rw [hp];exact zM6 X) hd k
theorem zO0 (X:BitVec 8):IntKind.u32.wrap (X.toNat:Int)=((X.setWidth 32).toNat:Int):=by
 rw [zR rfl]
 show ((BitVec.ofInt 32 _).toNat:Int)=_
 rw [BitVec.ofInt_natCast]
 simp
theorem zG7 {x:Operand} {p:Int} {kd:IntKind} {t t2:TypeId} {ds:TypeDesc} {X:BitVec 8} {d:Nat} {ty:TypeId} {pos:String} {af:Array Edge} (hs:St n F w0 S M a w) (hx:evo F x=some (.int kd p)) (hp:p=(X.toNat:Int)) (hsrc:P.underlying t=some ds) (hdst:P.underlying t2=some (.int .u32)) (hd:Nat.blt d n=true) (k:∀ a w,St n ((d,.int .u32 (((X.setWidth 32).toNat:Nat):Int))::F) w0 S M a w→wpList P ops Q rest a w):wpList P ops Q (⟨some d,.convert t t2 x,ty,pos,af,none⟩::rest) a w :=
 zM hs (by simp only [execOp,hs.ev hx,convert,Sem.run_bind,run_underlying hsrc,run_underlying hdst,Conv.intToInt];simp [-BitVec.toNat_setWidth,-BitVec.toNat_ofInt];rw [hp];exact zO0 X) hd k
theorem zAg {x:Operand} {p:Int} {kd:IntKind} {t t2:TypeId} {ds:TypeDesc} {d:Nat} {ty:TypeId} {pos:String} {af:Array Edge} (hs:St n F w0 S M a w) (hx:evo F x=some (.int kd p))  (hsrc:P.underlying t=some ds) (hdst:P.underlying t2=some (.int .u64)) (hd:Nat.blt d n=true) (k:∀ a w,St n ((d,.int .u64 (((BitVec.ofInt 64 p).toNat:Nat):Int))::F) w0 S M a w→wpList P ops Q rest a w):wpList P ops Q (⟨some d,.convert t t2 x,ty,pos,af,none⟩::rest) a w :=
 zM hs (by simp only [execOp,hs.ev hx,convert,Sem.run_bind,run_underlying hsrc,run_underlying hdst,Conv.intToInt];simp [-BitVec.toNat_setWidth,-BitVec.toNat_ofInt];exact zR (k:=.u64) rfl p) hd k
theorem zOu (X:BitVec 8):IntKind.u64.wrap (X.toNat:Int)=((X.setWidth 64).toNat:Int):=by
 rw [zR rfl]
 show ((BitVec.ofInt 64 _).toNat:Int)=_
 rw [BitVec.ofInt_natCast]
 simp
theorem zG6 {x:Operand} {p:Int} {kd:IntKind} {t t2:TypeId} {ds:TypeDesc} {X:BitVec 8} {d:Nat} {ty:TypeId} {pos:String} {af:Array Edge} (hs:St n F w0 S M a w) (hx:evo F x=some (.int kd p)) (hp:p=(X.toNat:Int)) (hsrc:P.underlying t=some ds) (hdst:P.underlying t2=some (.int .u64)) (hd:Nat.blt d n=true) (k:∀ a w,St n ((d,.int .u64 (((X.setWidth 64).toNat:Nat):Int))::F) w0 S M a w→wpList P ops Q rest a w):wpList P ops Q (⟨some d,.convert t t2 x,ty,pos,af,none⟩::rest) a w :=
 zM hs (by simp only [execOp,hs.ev hx,convert,Sem.run_bind,run_underlying hsrc,run_underlying hdst,Conv.intToInt];simp [-BitVec.toNat_setWidth,-BitVec.toNat_ofInt];rw [hp];exact zOu X) hd k
theorem zMV (X:BitVec 16):IntKind.u64.wrap (X.toNat:Int)=((X.setWidth 64).toNat:Int):=by
 rw [zR rfl]
 show ((BitVec.ofInt 64 _).toNat:Int)=_
 rw [BitVec.ofInt_natCast]
 simp
theorem zGR {x:Operand} {p:Int} {kd:IntKind} {t t2:TypeId} {ds:TypeDesc} {X:BitVec 16} {d:Nat} {ty:TypeId} {pos:String} {af:Array Edge} (hs:St n F w0 S M a w) (hx:evo F x=some (.int kd p)) (hp:p=(X.toNat:Int)) (hsrc:P.underlying t=some ds) (hdst:P.underlying t2=some (.int .u64)) (hd:Nat.blt d n=true) (k:∀ a w,St n ((d,.int .u64 (((X.setWidth 64).toNat:Nat):Int))::F) w0 S M a w→wpList P ops Q rest a w):wpList P ops Q (⟨some d,.convert t t2 x,ty,pos,af,none⟩::rest) a w :=
 zM hs (by simp only [execOp,hs.ev hx,convert,Sem.run_bind,run_underlying hsrc,run_underlying hdst,Conv.intToInt];simp [-BitVec.toNat_setWidth,-BitVec.toNat_ofInt];rw [hp];exact zMV X) hd k
theorem zB4 {x:Operand} {p:Int} {kd:IntKind} {t t2:TypeId} {ds:TypeDesc} {d:Nat} {ty:TypeId} {pos:String} {af:Array Edge} (hs:St n F w0 S M a w) (hx:evo F x=some (.int kd p)) (hr : -9223372036854775808≤p∧p≤9223372036854775807) (hsrc:P.underlying t=some ds) (hdst:P.underlying t2=some (.int .i64)) (hd:Nat.blt d n=true) (k:∀ a w,St n ((d,.int .i64 p)::F) w0 S M a w→wpList P ops Q rest a w):wpList P ops Q (⟨some d,.convert t t2 x,ty,pos,af,none⟩::rest) a w :=
 zM hs (by simp only [execOp,hs.ev hx,convert,Sem.run_bind,run_underlying hsrc,run_underlying hdst,Conv.intToInt];simp [-BitVec.toNat_setWidth,-BitVec.toNat_ofInt];exact IntWalk.i64_in p hr) hd k
theorem zRn (X:BitVec 64):IntKind.i64.wrap (X.toNat:Int)=X.toInt:=by
 rw [IntKind.wrap_i64,BitVec.toInt_eq_toNat_cond]
 have:=X.isLt
 split<;>omega
theorem zAV {x:Operand} {p:Int} {kd:IntKind} {t t2:TypeId} {ds:TypeDesc} {X:BitVec 64} {d:Nat} {ty:TypeId} {pos:String} {af:Array Edge} (hs:St n F w0 S M a w) (hx:evo F x=some (.int kd p)) (hp:p=(X.toNat:Int)) (hsrc:P.underlying t=some ds) (hdst:P.underlying t2=some (.int .i64)) (hd:Nat.blt d n=true) (k:∀ a w,St n ((d,.int .i64 X.toInt)::F) w0 S M a w→wpList P ops Q rest a w):wpList P ops Q (⟨some d,.convert t t2 x,ty,pos,af,none⟩::rest) a w :=
 zM hs (by simp only [execOp,hs.ev hx,convert,Sem.run_bind,run_underlying hsrc,run_underlying hdst,Conv.intToInt];simp [-BitVec.toNat_setWidth,-BitVec.toNat_ofInt];rw [hp];exact zRn X) hd k
variable {P : Program} {ops : Array Oper} {Q : Exit → Act → World → Prop} {rest : List Oper} {n : Nat} {F : List (Nat × Value)} {w0 : World} {S : List Nat} {M : List HA} {a : Act} {w : World}
variable {d : Nat} {ty : TypeId} {pos : String} {af : Array Edge}
inductive Nth : List Value→Nat→Value→Prop
 | z {x r}:Nth (x::r) 0 x
 | s {x r i v}:Nth r i v→Nth (x::r) (i+1) v
theorem Nth.get {cs:List Value} {i:Nat} {v:Value} (h:Nth cs i v):cs[i]? = some v:=by
 induction h with
 | z=>rfl
 | s _ ih=>simpa using ih
inductive zK3 : List Value→Nat→Value→List Value→Prop
 | z {x r v}:zK3 (x::r) 0 v (v::r)
 | s {x r i v r'}:zK3 r i v r'→zK3 (x::r) (i+1) v (x::r')
theorem zK3.eq {cs:List Value} {i:Nat} {v:Value} {cs':List Value} (h:zK3 cs i v cs'):cs'=cs.set i v∧i<cs.length:=by
 induction h with
 | z=>simp
 | s _ ih=>simp [ih.1,ih.2]
inductive Pre : List Value→Nat→List Value→Prop
 | n {r}:Pre r 0 []
 | c {x r k r'}:Pre r k r'→Pre (x::r) (k+1) (x::r')
theorem Pre.eq {cs:List Value} {k:Nat} {cs':List Value} (h:Pre cs k cs'):cs'=cs.take k∧k≤cs.length:=by
 induction h with
 | n=>simp
 | c _ ih=>simp [ih.1,ih.2]
inductive Cut : List Value→Nat→Nat→List Value→Prop
 | z {r k r'}:Pre r k r'→Cut r 0 k r'
 | s {x r i k r'}:Cut r i k r'→Cut (x::r) (i+1) k r'
theorem Cut.eq {cs:List Value} {i k:Nat} {cs':List Value} (h:Cut cs i k cs'):cs'=(cs.drop i).take k∧i+k≤cs.length:=by
 induction h with
 | z h=>simp [h.eq.1,h.eq.2]
 | s _ ih=>simp [ih.1];omega
inductive Cov : List Value→List Value→List Value→Prop
 | n {r}:Cov r [] r
 | c {x r v vs r'}:Cov r vs r'→Cov (x::r) (v::vs) (v::r')
theorem Cov.eq {cs vs cs':List Value} (h:Cov cs vs cs'):cs'=vs++cs.drop vs.length∧vs.length≤cs.length:=by
 induction h with
 | n=>simp
 | c _ ih=>simp [ih.1,ih.2]
inductive zIq : List Value→Nat→List Value→List Value→Prop
 | z {r vs r'}:Cov r vs r'→zIq r 0 vs r'
 | s {x r i vs r'}:zIq r i vs r'→zIq (x::r) (i+1) vs (x::r')
theorem zIq.eq {cs:List Value} {i:Nat} {vs cs':List Value} (h:zIq cs i vs cs'):cs'=cs.take i++vs++cs.drop (i+vs.length)∧i+vs.length≤cs.length:=by
 induction h with
 | z h=>simpa using h.eq
 | @s x r i vs r' _ ih =>
  rw [show i+1+vs.length=(i+vs.length)+1 by omega]
  simp [ih.1,ih.2]
def adr (v:Value) (k:Nat):Addr:=match v with
 | .slice (some ad) _ _=>ad.add k
 | _=>⟨0,0,none⟩
def zDj (v:Value) (n:Nat):Prop:=∃ A c,v = .slice A n c
structure Rd (w:World) (T:List Nat) (v:Value) (size n:Nat) (xs:List Value):Prop where
 form:∃ A c,v = .slice A n c∧n≤c∧c≤maxLen
 len:xs.length=n*size
 at_:0<n→∃ ad c,v = .slice (some ad) n c∧ad.block ∉ T∧ad.block<w.heap.size∧∀ j u,xs[j]? = some u→w.cell? (ad.add j)=some u
theorem Rd.isSl {T:List Nat} {v:Value} {size m:Nat} {xs:List Value} (h:Rd w T v size m xs):zDj v m:=by
 obtain ⟨A,c,e,_⟩:=h.form
 exact ⟨A,c,e⟩
theorem Rd.le {T:List Nat} {v:Value} {size m:Nat} {xs:List Value} (h:Rd w T v size m xs):m≤maxLen:=by
 obtain ⟨A,c,e,h1,h2⟩:=h.form
 omega
theorem Rd.anti {T T':List Nat} {v:Value} {size m:Nat} {xs:List Value} (h:Rd w T v size m xs) (hT:∀ k∈T',k∈T):Rd w T' v size m xs :=
 ⟨h.form,h.len,λh0=>by
  obtain ⟨ad,c,e,h1,h2,h3⟩:=h.at_ h0
  exact ⟨ad,c,e,λhk=>h1 (hT _ hk),h2,h3⟩⟩
theorem Rd.chg {T:List Nat} {w':World} {v:Value} {size m:Nat} {xs:List Value} (h:Rd w T v size m xs) (hc:Chg T w w'):Rd w' T v size m xs :=
 ⟨h.form,h.len,λh0=>by
  obtain ⟨ad,c,e,h1,h2,h3⟩:=h.at_ h0
  refine ⟨ad,c,e,h1,Nat.lt_of_lt_of_le h2 hc.size,λj u hu=>?_⟩
  have hb:(ad.add j).block=ad.block:=by unfold Addr.add;split<;>rfl
  rw [World.cell?_of_block (w:=w) (by rw [hb];exact hc.block _ h2 h1)]
  exact h3 j u hu⟩
theorem zC5.sub {M X M':List HA} (d:zC5 M X M'):∀ k∈zN X,k∈zN M:=λk hk=>d.perm.mem_iff.2 (by simp [hk])
theorem Mem.rd {T:List Nat} {v:Value} {size m:Nat} {xs:List Value} (hm:Mem w0 S M w) (h:Rd w0 S v size m xs) (hT:∀ k∈T,k∈zN M):Rd w T v size m xs:=by
 refine Rd.anti (T:=zN M) ?_ hT
 have h2:=h.chg hm.chg
 refine ⟨h2.form,h2.len,λh0=>?_⟩
 obtain ⟨ad,c,e,h1,hlt,h3⟩:=h2.at_ h0
 obtain ⟨ad',c',e',h1',hlt',_⟩:=h.at_ h0
 have:ad'=ad:=by rw [e'] at e;injection e with e _ _;injection e
 subst this
 exact ⟨ad',c,e,λhk=>by rcases hm.ge _ hk with h5 | h5;exact h1' h5;omega,hlt,h3⟩
theorem Mem.rd0 {v:Value} {size m:Nat} {xs:List Value} (hm:Mem w0 S M w) (h:Rd w0 S v size m xs):Rd w [] v size m xs:=hm.rd h (by simp)
theorem zK {v:Value} {e size m:Nat} {xs:List Value} (h:w.ownsRow 0 e size v m xs):Rd w [] v size m xs:=by
 refine ⟨?_,h.1,λh0=>?_⟩
 ·rcases h.2 with ⟨rfl,rfl⟩ | ⟨g,cap,cur,rfl,_,_,h1,h2,_⟩
  ·exact ⟨none,0,rfl,Nat.le_refl _,by simp [maxLen]⟩
  ·exact ⟨_,cap,rfl,h1,h2⟩
 ·rcases h.2 with ⟨rfl,rfl⟩ | ⟨g,cap,cur,rfl,_,hh,_⟩
  ·omega
  ·exact ⟨_,cap,rfl,by simp,(Array.getElem?_eq_some_iff.1 hh).1,λj u hu=>h.cells (g:=g) rfl j u hu⟩
theorem Mem.rdrow {M' X M'':List HA} {v:Value} {e size m:Nat} {xs:List Value} (hm:Mem w0 S M w) (dl:Del M (row v e size m xs) M') (d2:zC5 M' X M''):Rd w (zN X) v size m xs:=by
 have h1:=zK (hm.del dl)
 refine ⟨h1.form,h1.len,λh0=>?_⟩
 obtain ⟨ad,c,e,_,hlt,h3⟩:=h1.at_ h0
 refine ⟨ad,c,e,λhk=>?_,hlt,h3⟩
 have hn:=List.nodup_append.1 (dl.perm.nodup_iff.1 hm.nd)
 exact hn.2.2 ad.block (by simp [row,e,Value.ownBlock]) ad.block (d2.sub _ hk) rfl
theorem zAJ {g:Nat} {cs:List Value} {t:TypeId} {size m:Nat} (h:w.heap[g]? = some (.cells cs.toArray t (0,0))) (hl:cs.length=m*size) (hm:m≤maxLen):Rd w [] (.slice (some ⟨g,0,none⟩) m m) size m cs :=
 ⟨⟨_,m,rfl,Nat.le_refl _,hm⟩,hl,λ_=>⟨_,m,rfl,by simp,(Array.getElem?_eq_some_iff.1 h).1,λj u hu=>World.news_of_block h j u (by simpa using hu)⟩⟩
theorem zMi (ad:Addr) (i j:Nat):(ad.add i).add j=ad.add (i+j):=by
 unfold Addr.add
 by_cases h:i=0
 ·subst h;simp
 ·by_cases h':j=0
  ·subst h';simp [h]
  ·have:¬ (i+j=0):=by omega
   simp [h,h'];omega
def zFt (v:Value) (size l h:Nat):Value:=match v with
 | .slice A _ cap=>.slice (if cap=l then A else A.map (·.add (l*size))) (h-l) (cap-l)
 | v=>v
theorem Rd.slc {T : List Nat} {v : Value} {size m : Nat} {xs : List Value} (hr : Rd w T v size m xs) {l h : Nat} (h1 : l ≤ h) (h2 : h ≤ m) :
   Rd w T (zFt v size l h) size (h-l) ((xs.drop (l*size)).take ((h-l)*size)):=by
 obtain ⟨A,c,e,hc,hm⟩:=hr.form
 have hlen:=hr.len
 refine ⟨?_,?_,λh0=>?_⟩
 · subst e;exact ⟨_,c-l,rfl,by omega,by omega⟩
 · have:(h-l)*size≤xs.length-l*size:=by rw [hlen,← Nat.sub_mul];exact Nat.mul_le_mul_right _ (by omega)
   simp;omega
 · obtain ⟨ad,c',e',hT,hlt,hcell⟩:=hr.at_ (by omega)
   subst e'
   have hne:¬ c'=l:=by injection e with _ _ e3;omega
   refine ⟨ad.add (l*size),c'-l,?_,?_,?_,λj u hu=>?_⟩
   · simp [zFt,hne]
   · have hb:(ad.add (l*size)).block=ad.block:=by unfold Addr.add;split<;>rfl
     rw [hb];exact hT
   · have hb:(ad.add (l*size)).block=ad.block:=by unfold Addr.add;split<;>rfl
     rw [hb];exact hlt
   · rw [zMi]
     refine hcell _ u ?_
     rw [List.getElem?_take] at hu
     split at hu
     · simpa using hu
     · cases hu
theorem zAG {x : Operand} {v : Value} {t e : TypeId} {m : Nat} (hs : St n F w0 S M a w) (hx : evo F x = some v) (hf : zDj v m) (ht : P.underlying t = some (.slice e)) (hd : Nat.blt d n = true)
   (k:∀ a w,St n ((d,.int .i64 (m:Int))::F) w0 S M a w→wpList P ops Q rest a w):wpList P ops Q (⟨some d,.call { callee:=.builtin .len,args:=#[x],argTypes:=#[t] },ty,pos,af,none⟩::rest) a w:=by
 obtain ⟨A,c,rfl⟩:=hf
 exact zM hs (by simp [execOp,resolve,invoke,builtin,Builtin.len_,hs.ev hx,run_underlying ht,goInt]) hd k
theorem zBF {x i : Operand} {v : Value} {t e : TypeId} {m size : Nat} {xs : List Value} {T : List Nat} {kd : IntKind} {q : Int} (hs : St n F w0 S M a w) (hx : evo F x = some v) (hi : evo F i = some (.int kd q))
   (hr:Rd w T v size m xs) {j:Nat} (hj:q=(j:Int)) (h1:j<m) (ht:P.underlying t=some (.slice e)) (hsz:∀ w,(sizeOf e).run P w = .ok size w) (hd:Nat.blt d n=true)
   (k:∀ a w,St n ((d,.pointer (some (adr v (j*size))))::F) w0 S M a w→wpList P ops Q rest a w):wpList P ops Q (⟨some d,.indexAddr t x i,ty,pos,af,none⟩::rest) a w:=by
 subst hj
 obtain ⟨ad,c,rfl,_,_,_⟩:=hr.at_ (by omega)
 have hb:(0:Int)≤(j:Int)∧(j:Int)<(m:Int):=⟨by omega,by omega⟩
 exact zM hs (by simp [execOp,Instr.indexAt,asIntOf,hs.ev hx,hs.ev hi,run_underlying ht,hb,hsz,adr];intro;omega) hd k
theorem zA9 {x i : Operand} {v : Value} {t e : TypeId} {m : Nat} {xs : List Value} {T : List Nat} {kd : IntKind} {q : Int} (hs : St n F w0 S M a w) (hx : evo F x = some v) (hi : evo F i = some (.int kd q))
   (hr:Rd w T v 1 m xs) {j:Nat} (hj:q=(j:Int)) (h1:j<m) (ht:P.underlying t=some (.slice e)) (hsz:∀ w,(sizeOf e).run P w = .ok 1 w) (hd:Nat.blt d n=true)
   (k:∀ a w,St n ((d,.pointer (some (adr v j)))::F) w0 S M a w→wpList P ops Q rest a w):wpList P ops Q (⟨some d,.indexAddr t x i,ty,pos,af,none⟩::rest) a w :=
 zBF hs hx hi hr hj h1 ht hsz hd (by rw [Nat.mul_one];exact k)
theorem Rd.cell {T:List Nat} {v:Value} {size m:Nat} {xs:List Value} (hr:Rd w T v size m xs) {j:Nat} {u:Value} (hu:xs[j]? = some u):w.cell? (adr v j)=some u:=by
 have hj:j<xs.length:=by
  rcases Nat.lt_or_ge j xs.length with h | h
  ·exact h
  ·simp [List.getElem?_eq_none h] at hu
 have h0:0<m:=by
  rcases Nat.eq_zero_or_pos m with h | h
  ·rw [hr.len,h] at hj;omega
  ·exact h
 obtain ⟨ad,c,rfl,_,_,h3⟩:=hr.at_ h0
 exact h3 j u hu
theorem zBf {x : Operand} {v u : Value} {t : TypeId} {j : Nat} {m size : Nat} {xs : List Value} {T : List Nat} (hs : St n F w0 S M a w) (hx : evo F x = some (.pointer (some (adr v j))))
   (hr:Rd w T v size m xs) (hu:xs[j]? = some u) (hag:∀ w,(isAgg t).run P w = .ok false w) (hd:Nat.blt d n=true)
   (k:∀ a w,St n ((d,u)::F) w0 S M a w→wpList P ops Q rest a w):wpList P ops Q (⟨some d,.load t x,ty,pos,af,none⟩::rest) a w :=
 zM hs (by simp [execOp,Instr.loadAt,Instr.sureAddr,loadVar,hs.ev hx,hag,run_load,hr.cell hu]) hd k
theorem zPt {T:List Nat} {v:Value} {size m:Nat} {xs:List Value} (hr:Rd w T v size m xs) (h0:0<m) (j i:Nat):(adr v j).add i=adr v (j+i):=by
 obtain ⟨ad,c,rfl,_,_,_⟩:=hr.at_ h0
 exact zMi ad j i
theorem zAx {x : Operand} {v : Value} {t : TypeId} {j : Nat} {m size sz : Nat} {xs cs : List Value} {T : List Nat} (hs : St n F w0 S M a w) (hx : evo F x = some (.pointer (some (adr v j))))
   (hr:Rd w T v size m xs) (hu:(xs.drop j).take sz=cs) (hl:j+sz≤xs.length) (h0:0<m) (hag:∀ w,(isAgg t).run P w = .ok true w) (hsz:∀ w,(sizeOf t).run P w = .ok sz w) (hd:Nat.blt d n=true)
   (k:∀ a w,St n ((d,.agg cs.toArray)::F) w0 S M a w→wpList P ops Q rest a w):wpList P ops Q (⟨some d,.load t x,ty,pos,af,none⟩::rest) a w:=by
 have hcl:cs.length=sz:=by rw [← hu];simp;omega
 have hrun:=run_loadCells_list (P:=P) w (adr v j) cs (λi u hi=>by
   rw [zPt hr h0]
   refine hr.cell ?_
   rw [← hu,List.getElem?_take] at hi
   split at hi
   · simpa using hi
   · cases hi)
 rw [hcl] at hrun
 exact zM hs (by simp [execOp,Instr.loadAt,Instr.sureAddr,loadVar,hs.ev hx,hag,hsz,hrun]) hd k
theorem zH1 {x l : Operand} {v : Value} {t e : TypeId} {m size : Nat} {kd : IntKind} {q : Int} (hs : St n F w0 S M a w) (hx : evo F x = some v) (hl : evo F l = some (.int kd q)) {j : Nat} (hj : q = (j : Int)) (hf : zDj v m) (h1 : j ≤ m)
   (ht:P.underlying t=some (.slice e)) (hsz:∀ w,(sizeOf e).run P w = .ok size w) (hd:Nat.blt d n=true)
   (k:∀ a w,St n ((d,zFt v size j m)::F) w0 S M a w→wpList P ops Q rest a w):wpList P ops Q (⟨some d,.slice t x (some l) none none,ty,pos,af,none⟩::rest) a w:=by
 subst hj
 obtain ⟨A,c,rfl⟩:=hf
 have hb:(0:Int)≤(j:Int)∧(j:Int)≤(m:Int):=⟨by omega,by omega⟩
 exact zM hs (by simp [execOp,Instr.sliceAt,Instr.slice,Instr.sliceBounds,Instr.sliceBound,asIntOf,hs.ev hx,hs.ev hl,run_underlying ht,hb,hsz,zFt];intro;omega) hd k
theorem zMw {x h : Operand} {v : Value} {t e : TypeId} {m size : Nat} {kd : IntKind} {q : Int} {T : List Nat} {xs : List Value} (hs : St n F w0 S M a w) (hx : evo F x = some v) (hh : evo F h = some (.int kd q)) {j : Nat} (hj : q = (j : Int)) (hr : Rd w T v size m xs) (h1 : j ≤ m)
   (ht:P.underlying t=some (.slice e)) (hsz:∀ w,(sizeOf e).run P w = .ok size w) (hd:Nat.blt d n=true)
   (k:∀ a w,St n ((d,zFt v size 0 j)::F) w0 S M a w→wpList P ops Q rest a w):wpList P ops Q (⟨some d,.slice t x none (some h) none,ty,pos,af,none⟩::rest) a w:=by
 subst hj
 obtain ⟨A,c,rfl,hc,_⟩:=hr.form
 have hb:(0:Int)≤(j:Int)∧(j:Int)≤(c:Int):=⟨by omega,by omega⟩
 exact zM hs (by simp [execOp,Instr.sliceAt,Instr.slice,Instr.sliceBounds,Instr.sliceBound,asIntOf,hs.ev hx,hs.ev hh,run_underlying ht,hb,hsz,zFt];intro;omega) hd k
abbrev zQ := BitVec 8
def zKw (b:zQ):Value:=.int .u8 (b.toNat:Int)
def zD (bs:List zQ):List Value:=bs.map zKw
theorem zPY (bs:List zQ) {i:Nat} (h:i<bs.length):(zD bs)[i]? = some (.int .u8 ((bs[i].toNat:Nat):Int)):=by simp [zD,zKw,h]
theorem zB9 (bs:List zQ) {i:Nat} (h:i<bs.length):(zD bs)[i]? = some (.int .u8 (((bs.getD i 0).toNat:Nat):Int)):=by
 rw [zPY bs h];simp [List.getD_eq_getElem?_getD,h]
theorem zAR (bs:List zQ):∀ z∈zD bs,z.oneCell'=true:=by
 intro z hz
 obtain ⟨b,_,rfl⟩:=List.mem_map.1 hz
 rfl
theorem zFR (bs:List zQ) (i:Nat) (b:zQ):zD (bs.set i b)=(zD bs).set i (.int .u8 ((b.toNat:Nat):Int)):=by simp [zD,zKw,List.map_set]
theorem zBb (xs ys:List zQ):zD (xs++ys)=zD xs++zD ys:=by simp [zD]
theorem Rd.slcB {T:List Nat} {v:Value} {m:Nat} {bs:List zQ} (hr:Rd w T v 1 m (zD bs)) {l h:Nat} (h1:l≤h) (h2:h≤m):Rd w T (zFt v 1 l h) 1 (h-l) (zD ((bs.drop l).take (h-l))):=by
 have:=hr.slc h1 h2
 rw [Nat.mul_one,Nat.mul_one] at this
 simpa [zD,List.map_drop,List.map_take] using this
theorem Rd.slcL {T:List Nat} {v:Value} {m:Nat} {bs:List zQ} (hr:Rd w T v 1 m (zD bs)) {l:Nat} (h1:l≤m):Rd w T (zFt v 1 l m) 1 (m-l) (zD (bs.drop l)):=by
 have:=hr.slcB h1 (Nat.le_refl m)
 have hl:bs.length=m:=by have:=hr.len;simpa [zD] using this
 rwa [List.take_of_length_le (by simp;omega)] at this
theorem Rd.slcT {T:List Nat} {v:Value} {m:Nat} {bs:List zQ} (hr:Rd w T v 1 m (zD bs)) {h:Nat} (h1:h≤m):Rd w T (zFt v 1 0 h) 1 h (zD (bs.take h)):=by
 have:=hr.slcB (Nat.zero_le h) h1
 simpa using this
variable {P : Program} {ops : Array Oper} {Q : Exit → Act → World → Prop} {rest : List Oper} {n : Nat} {F : List (Nat × Value)} {w0 : World} {S : List Nat} {M : List HA} {a : Act} {w : World}
variable {d : Nat} {ty : TypeId} {pos : String} {af : Array Edge}
theorem mem_new {w w':World} {v':Value} {e size n':Nat} {xs':List Value} (hg:w.grownBy w' none) (ho:w'.ownsRow 0 e size v' n' xs') (hat:∀ k,v'.ownBlock=some k→w.heap.size≤k):Mem w (zN []) [row v' e size n' xs'] w':=by
 refine ⟨⟨hg.os,hg.tape,hg.output,hg.size,λk hk hS=>hg.block k hk (by simp)⟩,?_,?_,?_⟩
 ·intro h hh
  simp only [List.mem_singleton] at hh
  subst hh
  exact ho
 ·cases hv:v'.ownBlock<;>simp [zN,row,hv]
 ·intro k hk
  exact .inr (hat k (by simpa [zN,row] using hk))
theorem St.alloc (hs:St n F w0 S M a w) (cs:List Value) (t:TypeId):St n F w0 S (blk w.heap.size cs t::M) a (w.alloc (.cells cs.toArray t)):=by
 have:=hs.frame (zC5.n (M:=M)) (zSA w cs.toArray t)
 simpa using this
theorem zJI (cs:List Value) (t:TypeId):(newRow t cs.toArray).run P w = .ok ⟨w.heap.size,0,none⟩ (w.alloc (.cells cs.toArray t)):=rfl
theorem zBm {t : TypeId} {z : Value} {cs : List Value} (hs : St n F w0 S M a w) (hz : ∀ w, (zeroValue t).run P w = .ok z w) (hc : z.cells = cs.toArray) (hd : Nat.blt d n = true)
   (k:∀ g a w,St n ((d,.pointer (some ⟨g,0,none⟩))::F) w0 S (blk g cs t::M) a w→wpList P ops Q rest a w):wpList P ops Q (⟨some d,.alloc t,ty,pos,af,none⟩::rest) a w :=
 zDn rfl rfl (by simp [execOp,Instr.alloc,hz,newVar,hc,zJI]) (k _ _ _ ((hs.alloc cs t).put hd _))
theorem zJG {t : TypeId} {x : Operand} {v : Value} {cs : List Value} (hs : St n F w0 S M a w) (hx : evo F x = some v) (hc : v.cells = cs.toArray) (hd : Nat.blt d n = true)
   (k:∀ g a w,St n ((d,.pointer (some ⟨g,0,none⟩))::F) w0 S (blk g cs t::M) a w→wpList P ops Q rest a w):wpList P ops Q (⟨some d,.box t x,ty,pos,af,none⟩::rest) a w :=
 zDn rfl rfl (by simp [execOp,Instr.box,hs.ev hx,newVar,hc,zJI]) (k _ _ _ ((hs.alloc cs t).put hd _))
theorem zZ7 {fn : Fn} {fs cs : List Operand} {vs us : List Value} (hs : St n F w0 S M a w) (hf : Evs F fs vs) (hc : Evs F cs us) (hd : Nat.blt d n = true)
   (k:∀ a w,St n ((d,.func fn vs.toArray us.toArray)::F) w0 S M a w→wpList P ops Q rest a w):wpList P ops Q (⟨some d,.makeFunc fn fs.toArray cs.toArray,ty,pos,af,none⟩::rest) a w :=
 zM hs (by simp [execOp,Instr.makeFunc,hs.evs hf,hs.evs hc]) hd k
theorem zBL {g:Nat} {cs:List Value} {t:TypeId} {i:Nat} (h:w.heap[g]? = some (.cells cs.toArray t (0,0))):w.cell? ⟨g,i,none⟩=cs[i]?:=by
 simp [World.cell?,h]
theorem zOv {g:Nat} {cs:List Value} {t:TypeId} {i:Nat} (h:w.heap[g]? = some (.cells cs.toArray t (0,0))):w.frozen? ⟨g,i,none⟩=false:=by
 simp [World.frozen?,h]
theorem zKp {x : Operand} {v : Value} {t t2 : TypeId} {g i : Nat} {cs : List Value} {M' : List HA} (hs : St n F w0 S M a w) (hx : evo F x = some (.pointer (some ⟨g, i, none⟩))) (hb : Del M (blk g cs t2) M') (hv : Nth cs i v)
   (hag:∀ w,(isAgg t).run P w = .ok false w) (hd:Nat.blt d n=true)
   (k:∀ a w,St n ((d,v)::F) w0 S M a w→wpList P ops Q rest a w):wpList P ops Q (⟨some d,.load t x,ty,pos,af,none⟩::rest) a w:=by
 have hc:=(zBL (i:=i) (hs.mem.del hb)).trans hv.get
 exact zM hs (by simp [execOp,Instr.loadAt,Instr.sureAddr,loadVar,hs.ev hx,hag,run_load,hc]) hd k
theorem zQa {x : Operand} {vs : List Value} {t t2 : TypeId} {g i sz : Nat} {cs : List Value} {M' : List HA} (hs : St n F w0 S M a w) (hx : evo F x = some (.pointer (some ⟨g, i, none⟩))) (hb : Del M (blk g cs t2) M') (hv : Cut cs i sz vs)
   (hag:∀ w,(isAgg t).run P w = .ok true w) (hsz:∀ w,(sizeOf t).run P w = .ok sz w) (hd:Nat.blt d n=true)
   (k:∀ a w,St n ((d,.agg vs.toArray)::F) w0 S M a w→wpList P ops Q rest a w):wpList P ops Q (⟨some d,.load t x,ty,pos,af,none⟩::rest) a w:=by
 have he:=hv.eq
 have hcl:vs.length=sz:=by rw [he.1];simp;omega
 have hrun:=run_loadCells_list (P:=P) w ⟨g,i,none⟩ vs (λj u hj=>by
   have ha:(⟨g,i,none⟩ : Addr).add j=⟨g,i+j,none⟩:=by unfold Addr.add;split<;>simp_all
   rw [ha,zBL (hs.mem.del hb)]
   rw [he.1,List.getElem?_take] at hj
   split at hj
   · simpa using hj
   · cases hj)
 rw [hcl] at hrun
 exact zM hs (by simp [execOp,Instr.loadAt,Instr.sureAddr,loadVar,hs.ev hx,hag,hsz,hrun]) hd k
theorem zLR {g i : Nat} {cs : List Value} {t2 : TypeId} {u : Value} (h : w.heap[g]? = some (.cells cs.toArray t2 (0, 0))) (hi : i < cs.length) (h1 : u.oneCell' = true) :
   (store ⟨g,i,none⟩ u).run P w = .ok () (w.setCell ⟨g,i,none⟩ u):=by
 have hc:=(zBL (i:=i) h).trans (List.getElem?_eq_getElem hi)
 have hf:=zOv (i:=i) h
 unfold store
 cases u<;>first | (simp [Value.oneCell'] at h1;done) | simp [Sem.run,hc,hf]
theorem zBh {x y : Operand} {u : Value} {t t2 : TypeId} {g i : Nat} {cs cs' : List Value} {M' : List HA} (hs : St n F w0 S M a w) (hx : evo F x = some (.pointer (some ⟨g, i, none⟩))) (hy : evo F y = some u) (hb : Del M (blk g cs t2) M') (hv : zK3 cs i u cs')
   (h1:u.oneCell'=true) (hsz:∀ w,(sizeOf t).run P w = .ok 1 w)
   (k:∀ a w,St n F w0 S (blk g cs' t2::M') a w→wpList P ops Q rest a w):wpList P ops Q (⟨none,.store t x y,ty,pos,af,none⟩::rest) a w:=by
 have hm:=hs.mem.del hb
 have hrun:=zLR (P:=P) hm hv.eq.2 h1
 have hcells:u.cells=#[u]:=by cases u<;>first | rfl | (simp [Value.oneCell'] at h1;done)
 refine zH2 rfl rfl (w':=w.setCell ⟨g,i,none⟩ u) ?_ (k _ _ ?_)
 · have h0:(⟨g,i,none⟩ : Addr).add 0=⟨g,i,none⟩:=rfl
   simp [h0,execOp,Instr.storeAt,Instr.sureAddr,storeVar,hs.ev hx,hs.ev hy,hsz,hcells,storeCells,hrun]
 · have:=hs.frame (.c hb .n) (zPI w g i cs t2 u hm)
   rw [← hv.eq.1] at this
   exact this
theorem zO8 {g i:Nat} {cs:List Value} {t2:TypeId} {vs cs':List Value} (h:w.heap[g]? = some (.cells cs.toArray t2 (0,0))):Mem w (zN [blk g cs t2]) [blk g cs' t2] (w.setRow g cs'.toArray):=by
 refine ⟨⟨rfl,rfl,rfl,by simp,λk hk hS=>setRow_other w g k _ (by simpa [zN,blk] using hS)⟩,?_,by simp [zN,blk],by simp [zN,blk]⟩
 intro y hy
 simp only [List.mem_singleton] at hy
 subst hy
 exact setRow_heap w g cs.toArray cs'.toArray t2 (0,0) h
theorem zAU {x y : Operand} {vs : List Value} {t t2 : TypeId} {g i sz : Nat} {cs cs' : List Value} {M' : List HA} (hs : St n F w0 S M a w) (hx : evo F x = some (.pointer (some ⟨g, i, none⟩))) (hy : evo F y = some (.agg vs.toArray)) (hb : Del M (blk g cs t2) M') (hv : zIq cs i vs cs')
   (h1:∀ u∈vs,u.oneCell'=true) (hsz:∀ w,(sizeOf t).run P w = .ok sz w) (hl:vs.length=sz)
   (k:∀ a w,St n F w0 S (blk g cs' t2::M') a w→wpList P ops Q rest a w):wpList P ops Q (⟨none,.store t x y,ty,pos,af,none⟩::rest) a w:=by
 have hm:=hs.mem.del hb
 have hrun:=run_storeCells_at P g i t2 vs 0 cs.toArray w hm (by simpa using hv.eq.2) h1
 have e:(cs.toArray.toList.take (i+0)++vs++cs.toArray.toList.drop (i+0+vs.length))=cs':=by simpa using hv.eq.1.symm
 rw [e] at hrun
 refine zH2 rfl rfl (w':=w.setRow g cs'.toArray) ?_ (k _ _ ?_)
 · simp [execOp,Instr.storeAt,Instr.sureAddr,storeVar,hs.ev hx,hs.ev hy,hsz,Value.cells,hl,hrun]
 · exact hs.frame (.c hb .n) (zO8 (i:=i) (vs:=vs) hm)
theorem zcF {x : Operand} {t : TypeId} {g i f o : Nat} {fs : Array Field} {fd : Field} {sz : Nat} (hs : St n F w0 S M a w) (hx : evo F x = some (.pointer (some ⟨g, i, none⟩))) (ht : P.underlying t = some (.struct fs)) (hf : fs[f]? = some fd)
   (hsz:∀ w,(sizeOf fd.type).run P w = .ok sz w) (h0:sz≠0) (ho:i+fd.offset=o) (hd:Nat.blt d n=true)
   (k:∀ a w,St n ((d,.pointer (some ⟨g,o,none⟩))::F) w0 S M a w→wpList P ops Q rest a w):wpList P ops Q (⟨some d,.fieldAddr t x f,ty,pos,af,none⟩::rest) a w:=by
 have ha:(⟨g,i,none⟩ : Addr).add fd.offset=⟨g,i+fd.offset,none⟩:=by unfold Addr.add;split<;>simp_all
 subst ho
 exact zM hs (by simp [execOp,Instr.fieldAt,Instr.sureAddr,hs.ev hx,run_underlying ht,hf,fieldPlace,hsz,h0,ha]) hd k
theorem zT8 {x : Operand} {ad : Addr} (hs : St n F w0 S M a w) (hx : evo F x = some (.pointer (some ad))) (hd : Nat.blt d n = true)
   (k:∀ a w,St n ((d,.pointer (some ad))::F) w0 S M a w→wpList P ops Q rest a w):wpList P ops Q (⟨some d,.nilCheck x,ty,pos,af,none⟩::rest) a w :=
 zM hs (by simp [execOp,hs.ev hx]) hd k
theorem zFL (D:Nat) {t e:TypeId} {p:Option Addr} (ht:P.underlying t=some (.pointer e)):(Op.equalIn (D+1) t (.pointer p) (.pointer none)).run P w = .ok p.isNone w:=by
 cases p<;>simp [Op.equalIn,run_underlying ht]
theorem zKj {x y : Operand} {p : Option Addr} {t t2 e : TypeId} (hs : St n F w0 S M a w) (hx : evo F x = some (.pointer p)) (hy : evo F y = some (.pointer none)) (ht : P.underlying t = some (.pointer e)) (hd : Nat.blt d n = true)
   (k:∀ a w,St n ((d,.bool p.isNone)::F) w0 S M a w→wpList P ops Q rest a w):wpList P ops Q (⟨some d,.binOp .eql t x y t2,ty,pos,af,none⟩::rest) a w:=by
 have:=zFL (P:=P) (w:=w) 9999 (p:=p) ht
 exact zM hs (by simp only [execOp,hs.ev hx,hs.ev hy,binOp,eqGuard,Op.equal];simp [Op.maxDepth,this]) hd k
theorem zLP {x y : Operand} {p : Option Addr} {t t2 e : TypeId} (hs : St n F w0 S M a w) (hx : evo F x = some (.pointer p)) (hy : evo F y = some (.pointer none)) (ht : P.underlying t = some (.pointer e)) (hd : Nat.blt d n = true)
   (k:∀ a w,St n ((d,.bool (!p.isNone))::F) w0 S M a w→wpList P ops Q rest a w):wpList P ops Q (⟨some d,.binOp .neq t x y t2,ty,pos,af,none⟩::rest) a w:=by
 have:=zFL (P:=P) (w:=w) 9999 (p:=p) ht
 exact zM hs (by simp only [execOp,hs.ev hx,hs.ev hy,binOp,eqGuard,Op.equal];simp [Op.maxDepth,this]) hd k
theorem zHI {x : Operand} {vs : List Value} {v : Value} {i : Nat} (hs : St n F w0 S M a w) (hx : evo F x = some (.tuple vs.toArray)) (hv : Nth vs i v) (hd : Nat.blt d n = true)
   (k:∀ a w,St n ((d,v)::F) w0 S M a w→wpList P ops Q rest a w):wpList P ops Q (⟨some d,.extract x i,ty,pos,af,none⟩::rest) a w:=by
 have hg:=hv.get
 exact zM hs (by simp [execOp,Instr.extract,hs.ev hx,hg]) hd k
theorem za5 {x i : Operand} {vs : List Value} {v : Value} {t e : TypeId} {len : Nat} {kd : IntKind} {q : Int} (hs : St n F w0 S M a w) (hx : evo F x = some (.agg vs.toArray)) (hi : evo F i = some (.int kd q)) (ht : P.underlying t = some (.array len e))
   (h0:0≤q) (h1:q<len) (hv:vs[q.toNat]? = some v) (hag:∀ w,(isAgg e).run P w = .ok false w) (hsz:∀ w,(sizeOf e).run P w = .ok 1 w) (hd:Nat.blt d n=true)
   (k:∀ a w,St n ((d,v)::F) w0 S M a w→wpList P ops Q rest a w):wpList P ops Q (⟨some d,.index t x i,ty,pos,af,none⟩::rest) a w:=by
 have hb:0≤q∧q<(len:Int):=⟨h0,h1⟩
 exact zM hs (by simp [execOp,Instr.index,asIntOf,hs.ev hx,hs.ev hi,run_underlying ht,hb,part,hag,hsz,hv]) hd k
theorem zbT {x i : Operand} {s : ByteArray} {t : TypeId} {kd : IntKind} {q : Int} {b : UInt8} (hs : St n F w0 S M a w) (hx : evo F x = some (.string s)) (hi : evo F i = some (.int kd q)) (ht : P.underlying t = some .string)
   (h0:0≤q) (hb:s[q.toNat]? = some b) (hd:Nat.blt d n=true)
   (k:∀ a w,St n ((d,.int .u8 (b.toNat:Int))::F) w0 S M a w→wpList P ops Q rest a w):wpList P ops Q (⟨some d,.index t x i,ty,pos,af,none⟩::rest) a w :=
 zM hs (by simp [execOp,Instr.index,asIntOf,hs.ev hx,hs.ev hi,run_underlying ht,h0,hb]) hd k
theorem St.toRow {g : Nat} {cs : List Value} {e : TypeId} {size m : Nat} {M' : List HA} (hs : St n F w0 S M a w) (hb : Del M (blk g cs e) M') (hl : cs.length = m * size) (hm : m ≤ maxLen) :
   St n F w0 S (row (.slice (some ⟨g,0,none⟩) m m) e size m cs::M') a w:=by
 refine hs.frame (N:=[row (.slice (some ⟨g,0,none⟩) m m) e size m cs]) (.c hb .n) ⟨Chg.refl _ _,?_,by simp [zN,row,Value.ownBlock],by simp [zN,row,Value.ownBlock,blk]⟩
 intro h hh
 simp only [List.mem_singleton] at hh
 subst hh
 refine ⟨hl,.inr ⟨g,m,cs.toArray,rfl,by omega,hs.mem.del hb,Nat.le_refl _,hm,by simpa using hl,?_⟩⟩
 rw [← hl]
 simp
theorem St.addNil (hs:St n F w0 S M a w) (e size:Nat):St n F w0 S (row (.slice none 0 0) e size 0 []::M) a w:=by
 refine hs.frame (N:=[row (.slice none 0 0) e size 0 []]) .n ⟨Chg.refl _ _,?_,by simp [zN,row,Value.ownBlock],by simp [zN,row,Value.ownBlock]⟩
 intro h hh
 simp only [List.mem_singleton] at hh
 subst hh
 exact World.ownsRow_nil _ _ _ _
inductive zL2 : Nat→List (Nat×Operand)→List Operand→Prop
 | n {i}:zL2 i [] []
 | c {i x ps xs}:zL2 (i+1) ps xs→zL2 i ((i,x)::ps) (x::xs)
theorem zL2.eval {a:Act} {i:Nat} {ps:List (Nat×Operand)} {xs:List Operand} (h:zL2 i ps xs):ps.map (λ(i,x)=>(i,a.eval x))=((xs.map a.eval).zipIdx i).map λx=>(x.2,x.1):=by
 induction h with
 | n=>rfl
 | c _ ih=>simp [ih]
theorem zQ3 {t e : TypeId} (hs : St n F w0 S M a w) (ht : P.underlying t = some (.slice e)) (hd : Nat.blt d n = true)
   (k:∀ g a w,St n ((d,.slice (some ⟨g,0,none⟩) 0 0)::F) w0 S (blk g [] e::M) a w→wpList P ops Q rest a w) (hsz:∃ s,∀ w,(sizeOf e).run P w = .ok s w):wpList P ops Q (⟨some d,.buildSlice t 0 #[],ty,pos,af,none⟩::rest) a w:=by
 obtain ⟨s,hsz⟩:=hsz
 refine zDn rfl rfl (w':=w.alloc (.cells #[] e)) (v:=.slice (some ⟨w.heap.size,0,none⟩) 0 0) ?_ (k _ _ _ ((hs.alloc [] e).put hd _))
 have hr:(Instr.buildSlice t 0 #[]).run P w = .ok (.slice (some ⟨w.heap.size,0,none⟩) 0 0) (w.alloc (.cells #[] e)):=by
   simp [Instr.buildSlice,run_underlying ht,hsz,Instr.fill,newRow]
   congr 2
   apply Array.eq_empty_of_size_eq_zero
   simp
 simp [execOp,hr]
theorem zHt {t e : TypeId} {m size : Nat} {parts : List (Nat × Operand)} {xs : List Operand} {vs cs : List Value} {ie : TypeInfo} {z : Value} (hs : St n F w0 S M a w) (hp : zL2 0 parts xs) (hv : Evs F xs vs)
   (ht:P.underlying t=some (.slice e)) (hie:P.info? e=some ie) (hz:ie.zero=some z) (hsize:ie.size=size) (hzs:z.cells.size=size) (hpos:0<size) (hpos2:0<m) (hm:vs.length=m) (hsmall:m*size≤2 ^ 24)
   (h1:(vs.all λv=>Nat.beq v.cells.size size)=true) (hcs:(vs.flatMap λv=>v.cells.toList)=cs) (hd:Nat.blt d n=true)
   (k:∀ g a w,St n ((d,.slice (some ⟨g,0,none⟩) m m)::F) w0 S (blk g cs e::M) a w→wpList P ops Q rest a w):wpList P ops Q (⟨some d,.buildSlice t m parts.toArray,ty,pos,af,none⟩::rest) a w:=by
 subst hsize
 have hf:=Great.fill_whole hpos vs ((Array.range (m*ie.size)).map (z.cells[· % z.cells.size]!)) (λv hv=>by
   have:=List.all_eq_true.1 h1 v hv
   exact Nat.eq_of_beq_eq_true this) (by simp [hm])
 have he:((parts.toArray.map λ(i,x)=>(i,a.eval x)).toList)=(vs.zipIdx 0).map λx=>(x.2,x.1):=by
   simp [hp.eval,hs.evs hv]
 rw [hcs] at hf
 have hp0:0<m*ie.size:=Nat.mul_pos hpos2 hpos
 refine zDn rfl rfl (w':=w.alloc (.cells cs.toArray e)) (v:=.slice (some ⟨w.heap.size,0,none⟩) m m) ?_ (k _ _ _ ((hs.alloc cs e).put hd _))
 have:=run_buildSlice (P:=P) w t e m (parts.toArray.map λ(i,x)=>(i,a.eval x)) cs.toArray ie z ht hie hz (by omega) (by omega) (by rw [he];exact hf)
 unfold execOp
 simp only [Sem.run_bind]
 rw [this]
 rfl
theorem zBH {x y : Operand} {v u z : Value} {t e : TypeId} {m m2 size bytes : Nat} {xs news : List Value} {T : List Nat} {M' : List HA} {i : TypeInfo}
   (hs:St n F w0 S M a w) (hx:evo F x=some v) (hy:evo F y=some u) (hb:Del M (row v e size m xs) M') (hr:Rd w T u size m2 news) (h1:∀ z∈news,z.oneCell'=true)
   (ht:P.underlying t=some (.slice e)) (hi:P.info? e=some i) (hz:i.zero=some z) (hsize:i.size=size) (hby:i.bytes=bytes) (hzs:z.cells.size=size) (hsz:0<size)
   (hbytes:(m+m2)*bytes≤140737488355328) (h63:m+m2≤maxLen) (hd:Nat.blt d n=true)
   (k:∀ v' a w,St n ((d,v')::F) w0 S (row v' e size (m+m2) (xs++news)::M') a w→wpList P ops Q rest a w) :
   wpList P ops Q (⟨some d,.call { callee:=.builtin .append,args:=#[x,y],argTypes:=#[t,t] },ty,pos,af,none⟩::rest) a w:=by
 have how:w.ownsRow 0 e size v m xs:=hs.mem.del hb
 rcases Nat.eq_zero_or_pos m2 with h0 | h0
 · subst h0
   have hn:news=[]:=List.eq_nil_of_length_eq_zero (by simpa using hr.len)
   subst hn
   obtain ⟨A,c,rfl⟩:=hr.isSl
   refine zDn rfl rfl (v:=v) (w':=w) ?_ ?_
   · have hsl : ∃ B c', v = .slice B m c' ∧ m ≤ c' := by
       rcases how.2 with ⟨rfl,rfl⟩ | ⟨g,cap,cur,rfl,_,_,h,_⟩
       · exact ⟨_,_,rfl,Nat.le_refl _⟩
       · exact ⟨_,_,rfl,h⟩
     obtain ⟨B,c',rfl,hle⟩:=hsl
     have hfc:∀ q,(Builtin.firstCells size 0 (.slice A 0 c)).run P q = .ok #[] q:=λq=>by cases A<;>simp [Builtin.firstCells,loadCells,loadCellsFrom]
     cases B<;>simp [execOp,resolve,invoke,builtin,Builtin.append_,hs.ev hx,hs.ev hy,run_underlying ht,sizeOf,typeInfo,hi,hsize,Builtin.lenOf,hle,hfc,storeCells]
   · have hM : Mem w (zN [row v e size m xs]) [row v e size (m + 0) (xs ++ [])] w := by
       refine ⟨Chg.refl _ _,?_,by cases hv:v.ownBlock<;>simp [zN,row,hv],λk hk=>.inl (by simpa [zN,row] using hk)⟩
       intro h hh
       simp only [List.mem_singleton] at hh
       subst hh
       show w.ownsRow 0 e size v (m+0) (xs++[])
       simpa using how
     exact k v _ _ ((hs.frame (.c hb .n) hM).put hd v)
 · obtain ⟨ad,c,rfl,hT,hlt,hcell⟩:=hr.at_ h0
   refine wpList_append_own_at w (o:=⟨some d,.call { callee:=.builtin .append,args:=#[x,y],argTypes:=#[t,t] },ty,pos,af,none⟩) rfl x y t rfl 0 e i z size bytes ht hi hz hsize hby hzs hsz v m xs (hs.ev hx) how ad m2 c news (hs.ev hy) hr.len hcell h1 h63 hbytes (Nat.zero_le _) ?_
   intro v' w' hown hg _ hat
   exact k v' _ _ ((hs.frame (.c hb .n) (mem_grown hg hown (hat.imp id λh=>⟨_,h,Nat.le_refl _⟩) (xs:=xs) (n:=m))).put hd v')
theorem zcO {x y : Operand} {t e : TypeId} {m bytes : Nat} {z : Value} {i : TypeInfo} (hs : St n F w0 S M a w) (hx : evo F x = some (.int .i64 (m : Int))) (hy : evo F y = some (.int .i64 (m : Int))) (ht : P.underlying t = some (.slice e)) (hi : P.info? e = some i)
   (hz:i.zero=some z) (hsize:i.size=1) (hzs:z.cells=#[z]) (hbytes:i.bytes*m≤281474976710656) (hm:m≤281474976710656) (hd:Nat.blt d n=true)
   (k:∀ v a w,St n ((d,v)::F) w0 S (row v e 1 m (List.replicate m z)::M) a w→wpList P ops Q rest a w):wpList P ops Q (⟨some d,.makeSlice t x y,ty,pos,af,none⟩::rest) a w:=by
 obtain ⟨w',hrun,hown,hg⟩:=run_make_full (P:=P) w 0 t e i z 1 ht hi hz hsize .i64 .i64 m hbytes (by simp only [maxLen];omega) (Nat.zero_le _)
 rw [hzs,Nat.mul_one,toList_madeCells_one] at hown
 refine zDn rfl rfl (by simp [execOp,hs.ev hx,hs.ev hy,hrun]) (k _ _ _ ((hs.frame .n (mem_new hg hown ?_)).put hd _))
 simp [Value.ownBlock]
theorem St.rerow {v:Value} {e size m m':Nat} {xs xs':List Value} {M':List HA} (hs:St n F w0 S M a w) (hb:Del M (row v e size m xs) M') (hm:m=m') (hx:xs=xs'):St n F w0 S (row v e size m' xs'::M') a w:=by
 subst hm hx
 refine hs.frame (N:=[row v e size m xs]) (.c hb .n) ⟨Chg.refl _ _,?_,?_,λk hk=>.inl (by simpa [zN] using hk)⟩
 ·intro h hh
  simp only [List.mem_singleton] at hh
  subst hh
  exact hs.mem.del hb
 ·cases hv:v.ownBlock<;>simp [zN,row,hv]
theorem zNH {x y : Operand} {v u : Value} {t e : TypeId} {m j : Nat} {xs : List Value} {M' : List HA} (hs : St n F w0 S M a w) (hx : evo F x = some (.pointer (some (adr v j)))) (hy : evo F y = some u) (hb : Del M (row v e 1 m xs) M') (hj : j < m)
   (h1:u.oneCell'=true) (hsz:∀ w,(sizeOf t).run P w = .ok 1 w)
   (k:∀ a w,St n F w0 S (row v e 1 m (xs.set j u)::M') a w→wpList P ops Q rest a w):wpList P ops Q (⟨none,.store t x y,ty,pos,af,none⟩::rest) a w:=by
 have how:w.ownsRow 0 e 1 v m xs:=hs.mem.del hb
 obtain ⟨g,cap,rfl,_,_⟩:=how.form (by omega)
 have hlen:xs.length=m:=by have:=how.1;omega
 have hc:w.cell? ⟨g,j,none⟩=some (xs[j]'(by omega)):=(how.cellAt j (by omega)).trans (List.getElem?_eq_getElem (by omega))
 have hf:w.frozen? ⟨g,j,none⟩=false:=how.frozenAt j
 have ha:adr (.slice (some ⟨g,0,none⟩) m cap) j=⟨g,j,none⟩:=by
   show (⟨g,0,none⟩ : Addr).add j=_
   unfold Addr.add;split<;>simp_all
 have hrun:(store ⟨g,j,none⟩ u).run P w = .ok () (w.setCell ⟨g,j,none⟩ u):=by
   unfold store
   cases u<;>first | (simp [Value.oneCell'] at h1;done) | simp [Sem.run,hc,hf]
 have hcells:u.cells=#[u]:=by cases u<;>first | rfl | (simp [Value.oneCell'] at h1;done)
 have hst:=how.stored j u
 rw [ha] at hx
 refine zH2 rfl rfl (w':=w.setCell ⟨g,j,none⟩ u) ?_ (k _ _ ?_)
 · have h0:(⟨g,j,none⟩ : Addr).add 0=⟨g,j,none⟩:=rfl
   simp [h0,execOp,Instr.storeAt,Instr.sureAddr,storeVar,hs.ev hx,hs.ev hy,hsz,hcells,storeCells,hrun]
 · refine hs.frame (N:=[row (.slice (some ⟨g,0,none⟩) m cap) e 1 m (xs.set j u)]) (.c hb .n) ⟨⟨rfl,rfl,rfl,by simp [World.setCell],λk hk hS=>Below.heap_setCell w _ _ k (by simpa [zN,row,Value.ownBlock] using hS)⟩,?_,by simp [zN,row,Value.ownBlock],by simp [zN,row,Value.ownBlock]⟩
   intro y hy
   simp only [List.mem_singleton] at hy
   subst hy
   exact hst.1
theorem zQu (w:World) (T:List Nat) (size:Nat):Rd w T (.slice none 0 0) size 0 []:=⟨⟨none,0,rfl,Nat.le_refl _,by simp [maxLen]⟩,by simp,λh=>by omega⟩
variable {P : Program} {ops : Array Oper} {Q : Exit → Act → World → Prop} {rest : List Oper} {n : Nat} {F : List (Nat × Value)} {w0 : World} {S : List Nat} {M : List HA} {a : Act} {w : World}
variable {d : Nat} {ty : TypeId} {pos : String} {af : Array Edge}
theorem zHg {o : Oper} {f : FuncId} {args : Array Value} {post : Value → List HA → Prop} {X : List Nat} (hg : o.guard = none) (hrun : (execOp a.eval o).run P w = .ok (.enter f args) w) (hc : Calls P f args w (Ret w X post))
   (k:∀ v N w',post v N→Mem w X N w'→wpList P ops Q rest (a.put o.dst v) w'):wpList P ops Q (o::rest) a w :=
 wpList_plain hg λK hK=>by
   unfold Oper.wp
   rw [hrun,Oper.upon_enter]
   refine hc.mono λe w' ⟨v,N,he,hp,hm⟩=>?_
   subst he
   exact hK _ _ (k v N w' hp hm)
theorem zIU {x : Operand} {xs : List Operand} {ats : Array TypeId} {f : FuncId} {fs cs : List Value} {vs : List Value} {ds : Option Nat} {g : Option (Nat × Bool)} (hs : St n F w0 S M a w) (hx : evo F x = some (.func (.func f) fs.toArray cs.toArray)) (hv : Evs F xs vs)
   (hcall:∀ args w,(callFunc f args).run P w = .ok (.enter f args) w):(execOp a.eval ⟨ds,.call { callee:=.value x,args:=xs.toArray,argTypes:=ats },ty,pos,af,g⟩).run P w = .ok (.enter f (fs++vs++cs).toArray) w:=by
 simp [execOp,resolve,invoke,Deferred.ofValue,hs.ev hx,hs.evs hv,hcall]
def zGg {α:Type}:List α→(List α→Prop)→Prop
 | [],c=>c []
 | x::r,c=>zGg r λl=>c (x::l)
theorem zBX {α:Type}:∀ {l:List α} {c:List α→Prop},zGg l c↔c l
 | [],c=>Iff.rfl
 | x::r,c=>by unfold zGg;rw [zBX (l:=r)]
theorem zL {f : FuncId} {xs : List Operand} {ats : Array TypeId} {vs : List Value} {post : Value → List HA → Prop} {X M' : List HA} (hs : St n F w0 S M a w) (hv : Evs F xs vs) (hcall : ∀ args w, (callFunc f args).run P w = .ok (.enter f args) w)
   (hX:zC5 M X M') (hc:Calls P f vs.toArray w (Ret w (zN X) post)) (hd:Nat.blt d n=true)
   (k:∀ v N a w,post v N→zGg (N++M') λM2=>St n ((d,v)::F) w0 S M2 a w→wpList P ops Q rest a w) :
   wpList P ops Q (⟨some d,.call { callee:=.value (.func f),args:=xs.toArray,argTypes:=ats },ty,pos,af,none⟩::rest) a w:=by
 refine zHg rfl (zIU (fs:=[]) (cs:=[]) hs rfl hv hcall) (by simpa using hc) ?_
 intro v N w' hp hm
 exact zBX.1 (k v N _ _ hp) ((hs.frame hX hm).put hd v)
theorem zAf {f : FuncId} {xs : List Operand} {ats : Array TypeId} {vs : List Value} {v : Value} {X L M' : List HA} (hs : St n F w0 S M a w) (hv : Evs F xs vs) (hcall : ∀ args w, (callFunc f args).run P w = .ok (.enter f args) w)
   (hX:zC5 M X M') (hc:Calls P f vs.toArray w (Ret w (zN X) λu N=>u=v∧N=L)) (hd:Nat.blt d n=true)
   (k:zGg (L++M') λM2=>∀ a w,St n ((d,v)::F) w0 S M2 a w→wpList P ops Q rest a w) :
   wpList P ops Q (⟨some d,.call { callee:=.value (.func f),args:=xs.toArray,argTypes:=ats },ty,pos,af,none⟩::rest) a w :=
 zL hs hv hcall hX hc hd λ_ _ a w ⟨h1,h2⟩=>by subst h1 h2;exact zBX.2 (zBX.1 k a w)
theorem zBD {x : Operand} {f : FuncId} {xs : List Operand} {ats : Array TypeId} {vs us all : List Value} {post : Value → List HA → Prop} {X M' : List HA} (hs : St n F w0 S M a w) (hx : evo F x = some (.func (.func f) #[] us.toArray)) (hv : Evs F xs vs) (hall : vs ++ us = all) (hcall : ∀ args w, (callFunc f args).run P w = .ok (.enter f args) w)
   (hX:zC5 M X M') (hc:Calls P f all.toArray w (Ret w (zN X) post)) (hd:Nat.blt d n=true)
   (k:∀ v N a w,post v N→zGg (N++M') λM2=>St n ((d,v)::F) w0 S M2 a w→wpList P ops Q rest a w) :
   wpList P ops Q (⟨some d,.call { callee:=.value x,args:=xs.toArray,argTypes:=ats },ty,pos,af,none⟩::rest) a w:=by
 subst hall
 refine zHg rfl (zIU (fs:=[]) (cs:=us) hs hx hv hcall) (by simpa using hc) ?_
 intro v N w' hp hm
 exact zBX.1 (k v N _ _ hp) ((hs.frame hX hm).put hd v)
theorem zQh {x : Operand} {f : FuncId} {xs : List Operand} {ats : Array TypeId} {vs us all : List Value} {v : Value} {X L M' : List HA} (hs : St n F w0 S M a w) (hx : evo F x = some (.func (.func f) #[] us.toArray)) (hv : Evs F xs vs) (hall : vs ++ us = all) (hcall : ∀ args w, (callFunc f args).run P w = .ok (.enter f args) w)
   (hX:zC5 M X M') (hc:Calls P f all.toArray w (Ret w (zN X) λu N=>u=v∧N=L)) (hd:Nat.blt d n=true)
   (k:zGg (L++M') λM2=>∀ a w,St n ((d,v)::F) w0 S M2 a w→wpList P ops Q rest a w) :
   wpList P ops Q (⟨some d,.call { callee:=.value x,args:=xs.toArray,argTypes:=ats },ty,pos,af,none⟩::rest) a w :=
 zBD hs hx hv hall hcall hX hc hd λ_ _ a w ⟨h1,h2⟩=>by subst h1 h2;exact zBX.2 (zBX.1 k a w)
abbrev zAh (w:World) (v:Value):Ending→World→Prop:=Ret w [] (λv' N=>v'=v∧N=[])
theorem zB {f : FuncId} {xs : List Operand} {ats : Array TypeId} {vs : List Value} {v : Value} (hs : St n F w0 S M a w) (hv : Evs F xs vs) (hcall : ∀ args w, (callFunc f args).run P w = .ok (.enter f args) w)
   (hc:Calls P f vs.toArray w (zAh w v)) (hd:Nat.blt d n=true)
   (k:∀ a w,St n ((d,v)::F) w0 S M a w→wpList P ops Q rest a w) :
   wpList P ops Q (⟨some d,.call { callee:=.value (.func f),args:=xs.toArray,argTypes:=ats },ty,pos,af,none⟩::rest) a w:=by
 refine zL hs hv hcall .n hc hd ?_
 rintro v' N a' w' ⟨rfl,rfl⟩
 exact zBX.2 λhs'=>k _ _ hs'
inductive Ini : Nat→List Value→List (Nat×Value)→Prop
 | n {i}:Ini i [] []
 | c {i v vs F}:Ini (i+1) vs F→Ini i (v::vs) ((i,v)::F)
theorem Ini.get {i:Nat} {vs:List Value} {F:List (Nat×Value)} (h:Ini i vs F):∀ t v,lk F t=some v→i≤t∧vs[t-i]? = some v:=by
 induction h with
 | n=>intro t v h;simp [lk] at h
 | @c i u vs F _ ih =>
  intro t v h
  rw [zBT] at h
  by_cases e:i=t
  ·subst e;simp only [if_true,Option.some.injEq] at h;subst h;simp
  ·rw [if_neg e] at h
   obtain ⟨h1,h2⟩:=ih t v h
   refine ⟨by omega,?_⟩
   rw [show t-i=(t-(i+1))+1 by omega]
   simpa using h2
theorem enter {f : FuncId} {fn : Func} {c : Code} {args : List Value} {F0 : List (Nat × Value)} {R : Ending → World → Prop} (hf : P.funcs[f]? = some fn) (hb : fn.body = some c) (hn : fn.ntmps = n) (hle : Nat.ble args.length n = true) (hini : Ini 0 args F0) (hM : Mem w S M w)
   (h:∀ a w',St n F0 w S M a w'→c.wp P (bodyPost P fn R) a w'):Calls P f args.toArray w R:=by
 refine calls_of_wp hf hb (h _ _ ?_)
 have hle':args.length≤n:=by simpa using hle
 subst hn
 refine ⟨by simp;omega,rfl,λt v hv=>?_,hM⟩
 obtain ⟨_,h2⟩:=hini.get t v hv
 simp only [Nat.sub_zero] at h2
 have hlt:t<args.length:=by
   rcases Nat.lt_or_ge t args.length with h | h
   · exact h
   · simp [List.getElem?_eq_none h] at h2
 rw [Array.getElem?_append_left (by simpa using hlt)]
 simpa using h2
theorem fin {fn:Func} {post:Value→List HA→Prop} {t:Nat} {v:Value} (hs:St n F w0 S M a w) (hr:fn.results=#[.tmp t]) (hv:lk F t=some v) (hp:post v M):bodyPost P fn (Ret w0 S post) .ret a w:=by
 have hg:=hs.agr t v hv
 exact bodyPost_ret (results_tmp hr _ _ _) hs.dfr ⟨_,M,rfl,by simp [Array.getD_eq_getD_getElem?,hg];exact hp,hs.mem⟩
theorem zBO {fn:Func} {post:Value→List HA→Prop} {t t2:Nat} {v v2:Value} (hs:St n F w0 S M a w) (hr:fn.results=#[.tmp t,.tmp t2]) (hv:lk F t=some v) (hv2:lk F t2=some v2) (hp:post (.tuple #[v,v2]) M):bodyPost P fn (Ret w0 S post) .ret a w:=by
 have hg:=hs.agr t v hv
 have hg2:=hs.agr t2 v2 hv2
 exact bodyPost_ret (results_tmp2 hr _ _ _) hs.dfr ⟨_,M,rfl,by simp [Array.getD_eq_getD_getElem?,hg,hg2];exact hp,hs.mem⟩
theorem zFO {fn:Func} {post:Value→List HA→Prop} {t t2 t3:Nat} {v v2 v3:Value} (hs:St n F w0 S M a w) (hr:fn.results=#[.tmp t,.tmp t2,.tmp t3]) (hv:lk F t=some v) (hv2:lk F t2=some v2) (hv3:lk F t3=some v3) (hp:post (.tuple #[v,v2,v3]) M):bodyPost P fn (Ret w0 S post) .ret a w:=by
 have hg:=hs.agr t v hv
 have hg2:=hs.agr t2 v2 hv2
 have hg3:=hs.agr t3 v3 hv3
 exact ⟨hs.dfr,.tuple #[v,v2,v3],by simp [results,hr,Array.getD_eq_getD_getElem?,hg,hg2,hg3],_,M,rfl,hp,hs.mem⟩
theorem zIo {fn:Func} {post:Value→List HA→Prop} (hs:St n F w0 S M a w) (hr:fn.results=#[]) (hp:post (.tuple #[]) M):bodyPost P fn (Ret w0 S post) .normal a w :=
 bodyPost_end (results_none hr _ _ _) hs.dfr ⟨_,M,rfl,hp,hs.mem⟩
theorem zJw {c:Code} (I:Nat→Act→World→Prop) {m:Nat} (h0:I m a w) (step:∀ m a w,I m a w→c.wp P (Exit.then (λa' w'=>∃ m',m'<m∧I m' a' w') Q) a w):(Code.loop c).wp P Q a w:=by
 intro b k cs
 have key:∀ m a w,I m a w→∃ e a' w',Q e a' w'∧Arrives P (lone (b.at a (.code c :: .inLoop c::k)) cs w) b k cs e a' w':=by
  intro m
  induction m using Nat.strongRecOn with
  | _ m ih =>
   intro a w hI
   obtain ⟨e,a₁,w₁,hq,harr⟩:=step m a w hI b (.inLoop c::k) cs
   cases e with
   | normal =>
    obtain ⟨m',hlt,hI'⟩:=hq
    obtain ⟨e₂,a₂,w₂,hq₂,harr₂⟩:=ih m' hlt a₁ w₁ hI'
    exact ⟨e₂,a₂,w₂,hq₂,.of_steps (Steps.trans harr (.one step_inLoop)) harr₂⟩
   | exit id=>exact ⟨_,a₁,w₁,hq,.pass (x:=.inLoop c) rfl (λ_ _=>.inl (by simp)) harr⟩
   | goto l=>exact ⟨_,a₁,w₁,hq,.pass (x:=.inLoop c) rfl (λ_ _=>.inl (by simp)) harr⟩
   | ret=>exact ⟨_,a₁,w₁,hq,.pass (x:=.inLoop c) rfl (λ_ _=>.inl (by simp)) harr⟩
   | panic ch=>exact ⟨_,a₁,w₁,hq,.pass (x:=.inLoop c) rfl (λ_ _=>.inl (by simp)) harr⟩
   | outgrown=>exact ⟨_,a₁,w₁,hq,.pass (x:=.inLoop c) rfl (λ_ _=>.inl (by simp)) harr⟩
 obtain ⟨e,a',w',hq,harr⟩:=key _ a w h0
 exact ⟨e,a',w',hq,.of_steps (.one step_loop) harr⟩
theorem zYq {c:Operand} {x y:Code} {t:Bool} (hs:St n F w0 S M a w) (hc:evo F c=some (.bool t)) (ht:t=true→x.wp P Q a w) (hf:t=false→y.wp P Q a w):(Code.cond c x y).wp P Q a w:=wp_cond_split (hs.ev hc) ht hf
theorem zAy {K:Act→World→Prop} (h:K a w):Exit.then K Q .normal a w:=h
theorem zbq {id:Nat} (h:Q .normal a w):Exit.inBlock id Q .normal a w:=h
theorem zP6 {id:Nat} (h:Q .normal a w):Exit.inBlock id Q (.exit id) a w:=by simpa [Exit.inBlock] using h
theorem zX3 {id j:Nat} (hne:Nat.beq j id=false) (h:Q (.exit j) a w):Exit.inBlock id Q (.exit j) a w:=by
 have:¬ j=id:=λe=>by subst e;simp at hne
 simpa [Exit.inBlock,this] using h
theorem zb1 {K:Act→World→Prop} {i:Nat} (h:Q (.exit i) a w):Exit.then K Q (.exit i) a w:=h
theorem zct {K:Act→World→Prop} (h:Q .ret a w):Exit.then K Q .ret a w:=h
theorem zco {id:Nat} (h:Q .ret a w):Exit.inBlock id Q .ret a w:=h
theorem zUy {fn:Func} {post:Value→List HA→Prop} (hs:St n F w0 S M a w) (hr:fn.results=#[]) (hp:post (.tuple #[]) M):bodyPost P fn (Ret w0 S post) .ret a w :=
 ⟨hs.dfr,.tuple #[],by simp [results,hr],_,M,rfl,hp,hs.mem⟩
theorem zFW {b:Bool} (h:(!b)=true):b=false:=by simpa using h
theorem zFX {b:Bool} (h:(!b)=false):b=true:=by simpa using h
theorem zAW {p q:Int} (h:(p==q)=false):p≠q:=by simpa using h
theorem zX {p:Prop} {b:Bool} (ht:b=true→p) (hf:b=false→p):p:=match b,ht,hf with
 | true,h,_=>h rfl
 | false,_,h=>h rfl
theorem St.rd0 (hs:St n F w0 S M a w) {v:Value} {size m:Nat} {xs:List Value} (h:Rd w0 S v size m xs):Rd w [] v size m xs:=hs.mem.rd h (by simp)
theorem bvr {w:Nat} (X:BitVec w) (hw:w<64:=by omega) : -9223372036854775808≤(X.toNat:Int)∧(X.toNat:Int)≤9223372036854775807:=by
 have h:=X.isLt
 have:(2:Nat) ^ w≤2 ^ 63:=Nat.pow_le_pow_right (by omega) (by omega)
 have h2:(2:Nat) ^ 63=9223372036854775808:=by decide
 omega
theorem zC {ds : Option Nat} {op : Op} {j t : Nat} {b : Bool} {oj : Oper} (hs : St n F w0 S M a w) (hj : ops[j]? = some oj) (hoj : oj.dst = some t) (hv : lk F t = some (.bool b))
   (k:wpList P ops Q (⟨ds,op,ty,pos,af,none⟩::rest) a w):wpList P ops Q (⟨ds,op,ty,pos,af,some (j,b)⟩::rest) a w:=by
 have hg:=hs.agr t _ hv
 have hy:yielded ops a.tmps j=some b:=by simp [yielded,hj,hoj,hg]
 simp only [wpList,Region.wanted,hy,beq_self_eq_true,if_true] at k ⊢
 exact k
theorem zCV {d : Nat} {op : Op} {j t : Nat} {b b' : Bool} {oj : Oper} (hs : St n F w0 S M a w) (hj : ops[j]? = some oj) (hoj : oj.dst = some t) (hv : lk F t = some (.bool b')) (hb : b' = !b) (hd : Nat.blt d n = true)
   (k:∀ a w,St n ((d,undef)::F) w0 S M a w→wpList P ops Q rest a w):wpList P ops Q (⟨some d,op,ty,pos,af,some (j,b)⟩::rest) a w:=by
 have hg:=hs.agr t _ hv
 subst hb
 have hy:yielded ops a.tmps j=some (!b):=by simp [yielded,hj,hoj,hg]
 have hne:((some (!b))==some b)=false:=by cases b<;>rfl
 simp only [wpList,Region.wanted,hy,hne,Bool.false_eq_true,if_false]
 exact k _ _ (hs.put hd undef)
theorem zaq {x y : Operand} {p q : Int} {ts : Array TypeId} (hs : St n F w0 S M a w) (hx : evo F x = some (.int .i64 p)) (hy : evo F y = some (.int .i64 q)) (hd : Nat.blt d n = true)
   (k:∀ a w,St n ((d,.int .i64 (min p q))::F) w0 S M a w→wpList P ops Q rest a w):wpList P ops Q (⟨some d,.call { callee:=.builtin .min,args:=#[x,y],argTypes:=ts },ty,pos,af,none⟩::rest) a w:=by
 have e:(if q<p then q else p)=min p q:=by omega
 exact zM hs (by simp [execOp,resolve,invoke,builtin,Builtin.min_,Builtin.min2,hs.ev hx,hs.ev hy,e]) hd k
theorem zat {x y : Operand} {p q : Int} {ts : Array TypeId} (hs : St n F w0 S M a w) (hx : evo F x = some (.int .i64 p)) (hy : evo F y = some (.int .i64 q)) (hd : Nat.blt d n = true)
   (k:∀ a w,St n ((d,.int .i64 (max p q))::F) w0 S M a w→wpList P ops Q rest a w):wpList P ops Q (⟨some d,.call { callee:=.builtin .max,args:=#[x,y],argTypes:=ts },ty,pos,af,none⟩::rest) a w:=by
 have e:(if q > p then q else p)=max p q:=by omega
 exact zM hs (by simp [execOp,resolve,invoke,builtin,Builtin.max_,Builtin.max2,hs.ev hx,hs.ev hy,e]) hd k
end Go.Sx
