import Derived.Test.YtljpfgacpofkpaaGreatQSxBasA
import Derived.Orders
import Derived.Laws.Tables
import Derived.Laws.StructEq
import Derived.LoopN
import Derived.OpenShut
import Derived.SizedLaws
import Derived.ChangeSlices
import Derived.Deep.Slices
set_option linter.unusedVariables false
set_option linter.unusedSimpArgs false
namespace Go.Sx
open Go.RowKit
variable {P : Program} {ops : Array Oper} {Q : Exit → Act → World → Prop} {n : Nat} {F : List (Nat × Value)} {w0 : World} {S : List Nat} {M : List HA} {a : Act} {w : World}
structure PP where
 p:Value→World→Prop
 mono:∀ v w w',p v w→Chg [] w w'→p v w'
theorem zWP {F:List (Nat×Value)} {t:Nat} {u:Value} (hu:lk F t=some u):∃ p∈F,p.1=t:=by
 induction F with
 | nil=>simp [lk] at hu
 | cons p F ih =>
  obtain ⟨x,y⟩:=p
  rw [zBT] at hu
  by_cases e:x=t
  ·exact ⟨(x,y),by simp,e⟩
  ·rw [if_neg e] at hu
   obtain ⟨q,hq,e'⟩:=ih hu
   exact ⟨q,by simp [hq],e'⟩
theorem zD6 (F R:List (Nat×Value)) (t:Nat):lk (F++R) t=(lk F t).or (lk R t):=by
 induction F with
 | nil=>simp [lk]
 | cons p F ih =>
  obtain ⟨d,v⟩:=p
  rw [List.cons_append,zBT,zBT,ih]
  by_cases h:d=t<;>simp [h]
def zF3 (n:Nat) (a:Act):List (Nat×Value):=(List.range n).map λt=>(t,a.tmps.getD t undef)
theorem zW5 {f:Nat→Value}:∀ (l:List Nat) (t:Nat),lk (l.map λt=>(t,f t)) t=if t∈l then some (f t) else none
 | [],t=>by simp [lk]
 | x::l,t=>by
  rw [List.map_cons,zBT,zW5 l t]
  by_cases h:x=t
  ·subst h;simp
  ·have h':¬ t=x:=λe=>h e.symm
   simp [h,h']
theorem zKE (n:Nat) (a:Act) (t:Nat):lk (zF3 n a) t=if t<n then some (a.tmps.getD t undef) else none:=by
 unfold zF3
 rw [zW5]
 simp [List.mem_range]
theorem St.full (hs:St n F w0 S M a w):St n (F++zF3 n a) w [] [] a w:=by
 refine ⟨hs.size,hs.dfr,λt v h=>?_,Mem.nil w⟩
 rw [zD6] at h
 cases hF:lk F t with
 | some u =>
  rw [hF] at h
  simp only [Option.some_or,Option.some.injEq] at h
  subst h
  exact hs.agr t u hF
 | none =>
  rw [hF,Option.none_or,zKE] at h
  split at h
  ·rename_i hlt
   have:t<a.tmps.size:=by rw [hs.size];exact hlt
   simp only [Option.some.injEq] at h
   subst h
   simp [Array.getD_eq_getD_getElem?,Array.getElem?_eq_getElem this]
  ·cases h
inductive zFc (G:List (Nat×Value)):List (Nat×Value)→Prop
 | r:zFc G G
 | c {d v G'}:zFc G G'→zFc G ((d,v)::G')
theorem zFc.get {G G':List (Nat×Value)} (h:zFc G G'):∀ t u,lk G t=some u→∃ u',lk G' t=some u':=by
 induction h with
 | r=>exact λt u h=>⟨u,h⟩
 | @c d v G' _ ih =>
  intro t u hu
  rw [zBT]
  by_cases e:d=t
  ·exact ⟨v,by simp [e]⟩
  ·obtain ⟨u',h'⟩:=ih t u hu
   exact ⟨u',by simp [e,h']⟩
theorem St.keeps {F' G':List (Nat×Value)} {d:Nat} {v:Value} {N:List HA} {a':Act} {w':World} (h0:St n G' w [] [] a w) (hc:zFc (F'++zF3 n a) G') (hs':St n ((d,v)::G') w [] N a' w'):∀ t,t≠d→a'.tmps[t]? = a.tmps[t]?:=by
 intro t ht
 rcases Nat.lt_or_ge t n with hlt | hge
 · have hcov : ∃ u, lk (F' ++ zF3 n a) t = some u := by
     rw [zD6,zKE,if_pos hlt]
     cases lk F' t<;>simp
   obtain ⟨u,hu⟩:=hcov
   obtain ⟨u',hu'⟩:=hc.get t u hu
   rw [h0.agr t u' hu',hs'.agr t u' (by rw [zBT,if_neg (λe=>ht e.symm)];exact hu')]
 · rw [Array.getElem?_eq_none (by rw [hs'.size];exact hge),Array.getElem?_eq_none (by rw [h0.size];exact hge)]
theorem St.learn (hs:St n F w0 S M a w) {d:Nat} {v:Value} (h:a.tmps[d]? = some v):St n ((d,v)::F) w0 S M a w :=
 ⟨hs.size,hs.dfr,λt u hu=>by
  rw [zBT] at hu
  by_cases e:d=t
  ·subst e;simp only [if_true,Option.some.injEq] at hu;subst hu;exact h
  ·rw [if_neg e] at hu;exact hs.agr t u hu,hs.mem⟩
def zby (ops:Array Oper) (Ps:List PP) (i:Nat) (a:Act) (w:World):Prop:=∃ o d v p,ops[i]? = some o∧o.dst=some d∧a.tmps[d]? = some v∧Ps[i]? = some p∧p.p v w
theorem zby.get {Ps:List PP} {i:Nat} {l:List Oper} {d:Nat} {p:PP} (h:zby l.toArray Ps i a w) (h1:(l[i]?).bind (·.dst)=some d) (h2:Ps[i]? = some p):∃ v,a.tmps[d]? = some v∧p.p v w:=by
 obtain ⟨o',d',v,p',e1,e2,h3,e4,h5⟩:=h
 simp only [List.getElem?_toArray] at e1
 rw [e1] at h1
 simp only [Option.bind_some,e2,Option.some.injEq] at h1
 rw [e4] at h2
 injection h2 with h2
 subst h1 h2
 exact ⟨v,h3,h5⟩
def QN (n:Nat) (F:List (Nat×Value)) (a:Act) (w:World) (o:Oper) (p:PP):Exit→Act→World→Prop:=λe a' w'=>e = .normal∧∃ d v N G,o.dst=some d∧St n G w [] [] a w∧zFc F G∧St n ((d,v)::G) w [] N a' w'∧p.p v w'
def Stp (P:Program) (ops:Array Oper) (n:Nat) (F:List (Nat×Value)) (w0:World) (S:List Nat) (M:List HA) (Ps:List PP) (o:Oper) (p:PP):Prop :=
 ∀ a w R,Mem w0 S M w→St n (F++R) w [] [] a w→(∀ j,(∃ e∈o.after,Region.binds .any e=true∧e.on=j)→zby ops Ps j a w)→wpList P ops (QN n (F++R) a w o p) [o] a w
inductive zaG (P:Program) (ops:Array Oper) (n:Nat) (F:List (Nat×Value)) (w0:World) (S:List Nat) (M:List HA) (Ps:List PP):List Oper→List PP→Prop
 | n:zaG P ops n F w0 S M Ps [] []
 | c {o l p ps}:Stp P ops n F w0 S M Ps o p→zaG P ops n F w0 S M Ps l ps→zaG P ops n F w0 S M Ps (o::l) (p::ps)
theorem zaG.get {Ps:List PP} {l:List Oper} {ps:List PP} (h:zaG P ops n F w0 S M Ps l ps):∀ (i:Nat) (o:Oper),l[i]? = some o→∃ p,ps[i]? = some p∧Stp P ops n F w0 S M Ps o p:=by
 induction h with
 | n=>intro i o h;simp at h
 | c h _ ih =>
  intro i o hi
  cases i with
  | zero=>simp only [List.getElem?_cons_zero,Option.some.injEq] at hi;subst hi;exact ⟨_,rfl,h⟩
  | succ i=>exact ih i o (by simpa using hi)
def zNG (F:List (Nat×Value)) (l:List Oper):Bool :=
 (l.zipIdx.all λx=>x.1.after.all λe=>Nat.blt e.on x.2) && (l.all λo=>o.dst.isSome && F.all λp=>!(o.dst==some p.1)) && (l.zipIdx.all λx=>l.zipIdx.all λy=>Nat.beq x.2 y.2 || !(x.1.dst==y.1.dst))
theorem zLG {l : List Oper} (h : zNG F l = true) : (∀ (i : Nat) (o : Oper), l[i]? = some o → ∀ e ∈ o.after, e.on < i) ∧ (∀ (i : Nat) (o : Oper), l[i]? = some o → ∃ d, o.dst = some d ∧ ∀ p ∈ F, d ≠ p.1) ∧
   (∀ (i j:Nat) (o o':Oper),l[i]? = some o→l[j]? = some o'→i≠j→o.dst≠o'.dst):=by
 simp only [zNG,Bool.and_eq_true,List.all_eq_true] at h
 have hz:∀ (i:Nat) (o:Oper),l[i]? = some o→(o,i)∈l.zipIdx:=λi o hi=>by
   rw [List.mem_zipIdx_iff_getElem?];exact hi
 refine ⟨λi o hi e he=>?_,λi o hi=>?_,λi j o o' hi hj hne=>?_⟩
 · have h1:=h.1.1 _ (hz i o hi)
   rw [Array.all_eq_true_iff_forall_mem] at h1
   have:=h1 e he
   simpa using this
 · have h1:=h.1.2 o (List.mem_of_getElem? hi)
   obtain ⟨d,hd⟩:=Option.isSome_iff_exists.1 h1.1
   refine ⟨d,hd,λp hp e=>?_⟩
   have:=h1.2 p hp
   simp [hd,e] at this
 · have h1:=h.2 _ (hz i o hi) _ (hz j o' hj)
   simp only [Bool.or_eq_true] at h1
   rcases h1 with h1 | h1
   · exact absurd (Nat.eq_of_beq_eq_true h1) hne
   · simpa using h1
structure Inv (ops:Array Oper) (n:Nat) (F:List (Nat×Value)) (w0:World) (S:List Nat) (M:List HA) (Ps:List PP) (listed:Array Bool) (a:Act) (w:World):Prop where
 st:St n F w0 S M a w
 sz:listed.size=ops.size
 fact:∀ i,i<ops.size→listed.getD i false=true→zby ops Ps i a w
theorem Inv.step {Ps : List PP} {l : List Oper} {listed : Array Bool} {i : Nat} {o : Oper} {p : PP} {a' : Act} {w' : World} (hg : zNG F l = true) (h : Inv l.toArray n F w0 S M Ps listed a w) (ho : l[i]? = some o) (hp : Ps[i]? = some p)
   (hq:QN n (F++zF3 n a) a w o p .normal a' w'):Inv l.toArray n F w0 S M Ps (listed.setIfInBounds i true) a' w':=by
 obtain ⟨hfw,hbase,hdis⟩:=zLG hg
 obtain ⟨_,d,v,N,G,hd,hs0,hcov,hs',hpv⟩:=hq
 have hk:=hs0.keeps hcov hs'
 have hdl:d<n:=by
   obtain ⟨d',hd',hb⟩:=hbase i o ho
   rcases Nat.lt_or_ge d n with hh | hh
   · exact hh
   · have h1:=hs'.agr d v (by rw [zBT,if_pos rfl])
     rw [Array.getElem?_eq_none (by rw [hs'.size];exact hh)] at h1
     cases h1
 refine ⟨⟨hs'.size,hs'.dfr,λt u hu=>?_,?_⟩,by simp [h.sz],λj hj hl=>?_⟩
 · have hne : t ≠ d := by
     obtain ⟨d',hd',hb⟩:=hbase i o ho
     rw [hd] at hd'
     injection hd' with hd'
     subst hd'
     intro e
     subst e
     have:=zWP hu
     obtain ⟨q,hq,e⟩:=this
     exact hb q hq e.symm
   rw [hk t hne]
   exact h.st.agr t u hu
 · have:=h.st.mem.frame (zC5.n (M:=M)) hs'.mem
   refine ⟨this.chg,λy hy=>this.all y (List.mem_append.2 (.inr hy)),?_,λk hk=>this.ge k (by rw [zAs];exact List.mem_append.2 (.inr hk))⟩
   have hn:=this.nd
   rw [zAs] at hn
   exact (List.nodup_append.1 hn).2.1
 · by_cases e:j=i
   · subst e
     exact ⟨o,d,v,p,by simpa using ho,hd,hs'.agr d v (by rw [zBT,if_pos rfl]),hp,hpv⟩
   · have hl' : listed.getD j false = true := by
       have hne:¬ i=j:=λh=>e h.symm
       simpa [Array.getD_eq_getD_getElem?,Array.getElem?_setIfInBounds,hne] using hl
     obtain ⟨o',d',v',p',h1,h2,h3,h4,h5⟩:=h.fact j hj hl'
     refine ⟨o',d',v',p',h1,h2,?_,h4,p'.mono _ _ _ h5 hs'.mem.chg⟩
     rw [hk d' ?_]
     · exact h3
     · intro e'
       subst e'
       exact hdis j i o' o (by simpa using h1) ho e (by rw [h2,hd])
theorem zIK : ∀ (l:List Bool) (i:Nat) (h:i<l.length),l[i]=false→(l.set i true).count false+1=l.count false
 | [],i,h,_=>by simp at h
 | x::l,0,_,h=>by
  simp only [List.getElem_cons_zero] at h
  subst h
  simp
 | x::l,i+1,h,h'=>by
  have ih:=zIK l i (by simpa using h) (by simpa using h')
  simp only [List.set_cons_succ,List.count_cons]
  omega
variable {P : Program} {ops : Array Oper} {Q : Exit → Act → World → Prop} {rest : List Oper} {n : Nat} {F : List (Nat × Value)} {w0 : World} {S : List Nat} {M : List HA} {a : Act} {w : World}
theorem zYw {x y : Operand} {p q : Int} {kd : IntKind} {t t2 : TypeId} {d : Nat} {ty : TypeId} {pos : String} {af : Array Edge} (hs : St n F w0 S M a w)
   (hx:evo F x=some (.int .i64 p)) (hy:evo F y=some (.int kd q)) {m:Nat} (hm:q=(m:Int)) (hd:Nat.blt d n=true)
   (k:∀ a w,St n ((d,.int .i64 (IntKind.i64.wrap (p*2 ^ (min m 64))))::F) w0 S M a w→wpList P ops Q rest a w):wpList P ops Q (⟨some d,.binOp .shl t x y t2,ty,pos,af,none⟩::rest) a w :=
 zM hs (by subst hm;have h1:¬ (m:Int)<0:=(by omega);simp only [execOp,hs.ev hx,hs.ev hy,binOp,eqGuard,Op.shift,h1];simp [IntKind.bits]) hd k
theorem zQl {x y : Operand} {p q : Int} {kd : IntKind} {t t2 : TypeId} {d : Nat} {ty : TypeId} {pos : String} {af : Array Edge} (hs : St n F w0 S M a w)
   (hx:evo F x=some (.int .i64 p)) (hy:evo F y=some (.int kd q)) {m:Nat} (hm:q=(m:Int)) (hd:Nat.blt d n=true)
   (k:∀ a w,St n ((d,.int .i64 (p.fdiv (2 ^ (min m 64))))::F) w0 S M a w→wpList P ops Q rest a w):wpList P ops Q (⟨some d,.binOp .shr t x y t2,ty,pos,af,none⟩::rest) a w :=
 zM hs (by subst hm;have h1:¬ (m:Int)<0:=(by omega);simp only [execOp,hs.ev hx,hs.ev hy,binOp,eqGuard,Op.shift,h1];simp [IntKind.bits]) hd k
theorem zOq (X:BitVec 64):IntKind.i64.wrap (X.toNat:Int)=X.toInt:=zRn X
theorem zZj {x y : Operand} {p q : Int} {t t2 : TypeId} {d : Nat} {ty : TypeId} {pos : String} {af : Array Edge} (hs : St n F w0 S M a w)
   (hx:evo F x=some (.int .i64 p)) (hy:evo F y=some (.int .i64 q)) (hd:Nat.blt d n=true)
   (k:∀ a w,St n ((d,.int .i64 (BitVec.ofInt 64 p^^^BitVec.ofInt 64 q).toInt)::F) w0 S M a w→wpList P ops Q rest a w):wpList P ops Q (⟨some d,.binOp .xor t x y t2,ty,pos,af,none⟩::rest) a w :=
 zM hs (by simp only [execOp,hs.ev hx,hs.ev hy,binOp,eqGuard,Op.intBits];simp [IntKind.bits,-BitVec.toNat_xor,-BitVec.toInt_xor];exact zOq _) hd k
theorem zX8 {x : Operand} {p : Int} {t : TypeId} {d : Nat} {ty : TypeId} {pos : String} {af : Array Edge} (hs : St n F w0 S M a w)
   (hx:evo F x=some (.int .i64 p)) (hr : -9223372036854775807≤p∧p≤9223372036854775808) (hd:Nat.blt d n=true)
   (k:∀ a w,St n ((d,.int .i64 (-p))::F) w0 S M a w→wpList P ops Q rest a w):wpList P ops Q (⟨some d,.unOp .neg t x,ty,pos,af,none⟩::rest) a w :=
 zM hs (by have h:=IntWalk.i64_in (-p) (by omega);simp [execOp,hs.ev hx,Op.unary,Op.intArith,h]) hd k
theorem zG9 {x i : Operand} {s : ByteArray} {f : BitVec 8 → BitVec 8} {t : TypeId} {kd : IntKind} {q : Int} {Y : BitVec 8} {d : Nat} {ty : TypeId} {pos : String} {af : Array Edge} (hs : St n F w0 S M a w)
   (hx:evo F x=some (.string s)) (hi:evo F i=some (.int kd q)) (hq:q=((Y.toNat:Nat):Int)) (ht:P.underlying t=some .string) (hf:∀ Y:BitVec 8,s[Y.toNat]? = some (UInt8.ofBitVec (f Y))) (hd:Nat.blt d n=true)
   (k:∀ a w,St n ((d,.int .u8 (((f Y).toNat:Nat):Int))::F) w0 S M a w→wpList P ops Q rest a w):wpList P ops Q (⟨some d,.index t x i,ty,pos,af,none⟩::rest) a w :=
 zbT hs hx hi ht (by omega) (by subst hq;exact hf Y) hd k
theorem zSU {d : Nat} {op : Op} {j t : Nat} {b : Bool} {oj : Oper} {ty : TypeId} {pos : String} {af : Array Edge} (hs : St n F w0 S M a w) (hj : ops[j]? = some oj) (hoj : oj.dst = some t) (hv : lk F t = some undef) (hd : Nat.blt d n = true)
   (k:∀ a w,St n ((d,undef)::F) w0 S M a w→wpList P ops Q rest a w):wpList P ops Q (⟨some d,op,ty,pos,af,some (j,b)⟩::rest) a w:=by
 have hg:=hs.agr t _ hv
 have hy:yielded ops a.tmps j=none:=by simp [yielded,hj,hoj,hg,undef]
 have hne:((none:Option Bool)==some b)=false:=by cases b<;>rfl
 simp only [wpList,Region.wanted,hy,hne,Bool.false_eq_true,if_false]
 exact k _ _ (hs.put hd undef)
theorem zY4 {x y : Operand} {kd : IntKind} {p q : Int} {ts : Array TypeId} {d : Nat} {ty : TypeId} {pos : String} {af : Array Edge} (hs : St n F w0 S M a w) (hx : evo F x = some (.int kd p)) (hy : evo F y = some (.int kd q)) (hd : Nat.blt d n = true)
   (k:∀ a w,St n ((d,.int kd (min p q))::F) w0 S M a w→wpList P ops Q rest a w):wpList P ops Q (⟨some d,.call { callee:=.builtin .min,args:=#[x,y],argTypes:=ts },ty,pos,af,none⟩::rest) a w:=by
 have e:(if q<p then q else p)=min p q:=by omega
 exact zM hs (by simp [execOp,resolve,invoke,builtin,Builtin.min_,Builtin.min2,hs.ev hx,hs.ev hy,e]) hd k
theorem zAr {x : Operand} {f : FuncId} {xs : List Operand} {ats : Array TypeId} {vs us all : List Value} {v : Value} {d : Nat} {ty : TypeId} {pos : String} {af : Array Edge} (hs : St n F w0 S M a w) (hx : evo F x = some (.func (.func f) #[] us.toArray)) (hv : Evs F xs vs) (hall : vs ++ us = all) (hcall : ∀ args w, (callFunc f args).run P w = .ok (.enter f args) w)
   (hc:Calls P f all.toArray w (zAh w v)) (hd:Nat.blt d n=true)
   (k:∀ a w,St n ((d,v)::F) w0 S M a w→wpList P ops Q rest a w) :
   wpList P ops Q (⟨some d,.call { callee:=.value x,args:=xs.toArray,argTypes:=ats },ty,pos,af,none⟩::rest) a w:=by
 refine zBD hs hx hv hall hcall .n hc hd ?_
 rintro v' N a' w' ⟨rfl,rfl⟩
 exact zBX.2 λhs'=>k _ _ hs'
variable {P : Program} {ops : Array Oper} {Q : Exit → Act → World → Prop} {rest : List Oper} {n : Nat} {F : List (Nat × Value)} {w0 : World} {S : List Nat} {M : List HA} {a : Act} {w : World}
variable {d : Nat} {ty : TypeId} {pos : String} {af : Array Edge}
theorem zSN {v:Value} (h:v.oneCell'=true):v.cells=#[v]:=by cases v<;>first | rfl | (simp [Value.oneCell'] at h;done)
theorem zPU {v:Value} (h:v.oneCell'=true):v.cells.toList=[v]:=by rw [zSN h]
theorem zDj.one {v:Value} {m:Nat} (h:zDj v m):v.oneCell'=true:=by obtain ⟨A,c,rfl⟩:=h;rfl
theorem zDj.lcells {v:Value} {m:Nat} (h:zDj v m):v.cells.toList=[v]:=zPU h.one
theorem zQU : ∀ (us : List Value) (k off : Nat) (cs : List Value), off + k + us.length ≤ cs.length →
   (us.zipIdx k).foldl (λ(l:List Value) x=>l.set (off+x.2) x.1) cs=cs.take (off+k)++us++cs.drop (off+k+us.length)
 | [],k,off,cs,_=>by simp
 | u::us,k,off,cs,h=>by
   simp only [List.length_cons] at h
   simp only [List.zipIdx_cons,List.foldl_cons]
   rw [zQU us (k+1) off (cs.set (off+k) u) (by simp;omega)]
   rw [show off+(k+1)=off+k+1 by omega,List.take_add_one,List.getElem?_set_self (by omega),List.take_set_of_le (Nat.le_refl _),List.drop_set_of_lt (by omega)]
   simp only [Option.toList_some,List.append_assoc,List.singleton_append,List.length_cons]
   rw [show off+k+1+us.length=off+k+(us.length+1) by omega]
inductive zKe (place:Nat→Option (Nat×Nat)):List Value→List (Nat×Value)→List Value→Prop
 | n {cs}:zKe place cs [] cs
 | c {cs i off v us cs' r cs''}:place i=some (off,us.length)→v.cells.toList=us→zIq cs off us cs'→zKe place cs' r cs''→zKe place cs ((i,v)::r) cs''
theorem zKe.fill {place:Nat→Option (Nat×Nat)} {cs:List Value} {r:List (Nat×Value)} {cs':List Value} (h:zKe place cs r cs'):Instr.fill place cs.toArray r=some cs'.toArray:=by
 induction h with
 | n=>rfl
 | @c cs i off v us cs' r cs'' hp hu hput _ ih =>
  have he:=hput.eq
  have hsz:v.cells.size=us.length:=by rw [← hu];simp
  have hcv:v.cells=us.toArray:=by rw [← hu]
  simp only [Instr.fill,hp]
  have h2:¬ off+us.length > cs.length:=by omega
  have hf:(v.cells.zipIdx.foldl (λcs x=>cs.setIfInBounds (off+x.2) x.1) cs.toArray)=cs'.toArray:=by
   rw [hcv]
   have h3:=zQU us 0 off cs (by omega)
   simp only [Nat.add_zero] at h3
   rw [he.1,← h3]
   have:∀ (l:List (Value×Nat)) (c:List Value),List.foldl (λ(cs:Array Value) x=>cs.setIfInBounds (off+x.2) x.1) c.toArray l=(List.foldl (λ(l:List Value) x=>l.set (off+x.2) x.1) c l).toArray:=by
    intro l
    induction l with
    | nil=>intro c;rfl
    | cons x l ih=>intro c;simp only [List.foldl_cons,List.setIfInBounds_toArray];exact ih _
   have h4:=this us.zipIdx cs
   rw [← h4]
   simp
  rw [show (decide (v.cells.size≠us.length) || decide (off+v.cells.size > cs.toArray.size))=false by simp [hsz];omega]
  simp only [Bool.false_eq_true,if_false]
  exact (congrArg (λz=>Instr.fill place z r) hf).trans ih
inductive EvP (F:List (Nat×Value)):List (Nat×Operand)→List (Nat×Value)→Prop
 | n:EvP F [] []
 | c {i x v ps vs}:evo F x=some v→EvP F ps vs→EvP F ((i,x)::ps) ((i,v)::vs)
theorem EvP.eval {ps:List (Nat×Operand)} {vs:List (Nat×Value)} (h:EvP F ps vs) (hs:St n F w0 S M a w):(ps.map λ(i,x)=>(i,a.eval x))=vs:=by
 induction h with
 | n=>rfl
 | c hx _ ih=>simp [hs.ev hx,ih]
theorem zF1 {t : TypeId} {fs : Array Field} {parts : List (Nat × Operand)} {vs : List (Nat × Value)} {cs zs : List Value} {it : TypeInfo} {z : Value} {places : List (Nat × Nat)} (hs : St n F w0 S M a w) (hp : EvP F parts vs)
   (ht:P.underlying t=some (.struct fs)) (hit:P.info? t=some it) (hz:it.zero=some z) (hzc:z.cells.toList=zs) (hpl:fs.toList.mapM (λf=>(P.info? f.type).map λi=>(f.offset,i.size))=some places)
   (hf:zKe (places.toArray[·]?) zs vs cs) (hd:Nat.blt d n=true)
   (k:∀ a w,St n ((d,.agg cs.toArray)::F) w0 S M a w→wpList P ops Q rest a w):wpList P ops Q (⟨some d,.build t parts.toArray,ty,pos,af,none⟩::rest) a w:=by
 refine zM hs ?_ hd k
 have hb:P.built t vs=some cs.toArray:=by
   unfold Program.built
   simp only [hit,ht,hz,hpl]
   have:=hf.fill
   rw [← hzc] at this
   simpa using this
 have he:(parts.toArray.map λ(i,x)=>(i,a.eval x)).toList=vs:=by simpa using hp.eval hs
 unfold execOp
 simp only [Sem.run_bind]
 rw [run_build w t _ cs.toArray (by rw [he];exact hb)]
 rfl
theorem zSO {t e : TypeId} {len : Nat} {parts : List (Nat × Operand)} {vs : List (Nat × Value)} {cs zs : List Value} {it ie : TypeInfo} {z : Value} {sz : Nat} (hs : St n F w0 S M a w) (hp : EvP F parts vs)
   (ht:P.underlying t=some (.array len e)) (hit:P.info? t=some it) (hz:it.zero=some z) (hzc:z.cells.toList=zs) (hie:P.info? e=some ie) (hsz:ie.size=sz)
   (hf:zKe (λi=>some (i*sz,sz)) zs vs cs) (hd:Nat.blt d n=true)
   (k:∀ a w,St n ((d,.agg cs.toArray)::F) w0 S M a w→wpList P ops Q rest a w):wpList P ops Q (⟨some d,.build t parts.toArray,ty,pos,af,none⟩::rest) a w:=by
 refine zM hs ?_ hd k
 subst hsz
 have hb:P.built t vs=some cs.toArray:=by
   unfold Program.built
   simp only [hit,ht,hz,hie]
   have:=hf.fill
   rw [← hzc] at this
   simpa using this
 have he:(parts.toArray.map λ(i,x)=>(i,a.eval x)).toList=vs:=by simpa using hp.eval hs
 unfold execOp
 simp only [Sem.run_bind]
 rw [run_build w t _ cs.toArray (by rw [he];exact hb)]
 rfl
theorem zI0 {fn : Func} {post : Value → List HA → Prop} {t : Nat} {rt bt : TypeId} {g i sz : Nat} {cs vs : List Value} {M' : List HA} (hs : St n F w0 S M a w) (hr : fn.results = #[.cell t rt]) (hv : lk F t = some (.pointer (some ⟨g, i, none⟩))) (hb : Del M (blk g cs bt) M') (hc : Cut cs i sz vs)
   (hag:∀ w,(isAgg rt).run P w = .ok true w) (hsz:∀ w,(sizeOf rt).run P w = .ok sz w) {X N:List HA} (hD:zC5 M X N) (hp:post (.agg vs.toArray) N):bodyPost P fn (Ret w0 S post) .ret a w:=by
 have hg:=hs.agr t _ hv
 have he:=hc.eq
 have hcl:vs.length=sz:=by rw [he.1];simp;omega
 have hrun:=run_loadCells_list (P:=P) w ⟨g,i,none⟩ vs (λj u hj=>by
   have ha:(⟨g,i,none⟩ : Addr).add j=⟨g,i+j,none⟩:=by unfold Addr.add;split<;>simp_all
   rw [ha,zBL (hs.mem.del hb)]
   rw [he.1,List.getElem?_take] at hj
   split at hj
   · simpa using hj
   · cases hj)
 rw [hcl] at hrun
 refine bodyPost_ret (v:=.agg vs.toArray) ?_ hs.dfr ⟨_,N,rfl,hp,hs.mem.drop hD⟩
 simp [results,hr,Array.getD_eq_getD_getElem?,hg,asAddr,loadVar,hag,hsz,hrun]
theorem zAC {x : Operand} {v : Value} {t t2 : TypeId} {g i : Nat} {cs : List Value} (hs : St n F w0 S M a w) (hx : evo F x = some (.pointer (some ⟨g, i, none⟩))) (hb : (blk g cs t2).p w) (hv : Nth cs i v)
   (hag:∀ w,(isAgg t).run P w = .ok false w) (hd:Nat.blt d n=true)
   (k:∀ a w,St n ((d,v)::F) w0 S M a w→wpList P ops Q rest a w):wpList P ops Q (⟨some d,.load t x,ty,pos,af,none⟩::rest) a w:=by
 have hc:=(zBL (i:=i) hb).trans hv.get
 exact zM hs (by simp [execOp,Instr.loadAt,Instr.sureAddr,loadVar,hs.ev hx,hag,run_load,hc]) hd k
theorem zS3 {x : Operand} {vs : List Value} {t t2 : TypeId} {g i sz : Nat} {cs : List Value} (hs : St n F w0 S M a w) (hx : evo F x = some (.pointer (some ⟨g, i, none⟩))) (hb : (blk g cs t2).p w) (hv : Cut cs i sz vs)
   (hag:∀ w,(isAgg t).run P w = .ok true w) (hsz:∀ w,(sizeOf t).run P w = .ok sz w) (hd:Nat.blt d n=true)
   (k:∀ a w,St n ((d,.agg vs.toArray)::F) w0 S M a w→wpList P ops Q rest a w):wpList P ops Q (⟨some d,.load t x,ty,pos,af,none⟩::rest) a w:=by
 have he:=hv.eq
 have hcl:vs.length=sz:=by rw [he.1];simp;omega
 have hrun:=run_loadCells_list (P:=P) w ⟨g,i,none⟩ vs (λj u hj=>by
   have ha:(⟨g,i,none⟩ : Addr).add j=⟨g,i+j,none⟩:=by unfold Addr.add;split<;>simp_all
   rw [ha,zBL hb]
   rw [he.1,List.getElem?_take] at hj
   split at hj
   · simpa using hj
   · cases hj)
 rw [hcl] at hrun
 exact zM hs (by simp [execOp,Instr.loadAt,Instr.sureAddr,loadVar,hs.ev hx,hag,hsz,hrun]) hd k
theorem zXS (m : Nat) {t e : TypeId} {k k2 : IntKind} (w : World) {a1 a2 a3 b1 b2 b3 : Int} (ht : P.underlying t = some (.array 3 e)) (he : P.underlying e = some (.int k2)) (hsz : ∀ w, (sizeOf e).run P w = .ok 1 w) (hag : ∀ w, (isAgg e).run P w = .ok false w) :
   (Op.equalIn (m+2) t (.agg #[.int k a1,.int k a2,.int k a3]) (.agg #[.int k b1,.int k b2,.int k b3])).run P w = .ok (a1==b1 && a2==b2 && a3==b3) w:=by
 have h1:∀ (x y:Int) w,(Op.equalIn (m+1) e (.int k x) (.int k y)).run P w = .ok (x==y) w:=λx y w=>by simp [Op.equalIn,run_underlying he]
 rw [Op.equalIn]
 simp only [Sem.run_bind,run_underlying ht,hsz,Result.andThen_ok]
 simp [Std.Legacy.Range.forIn_eq_forIn_range',List.range',part,hag,h1,Std.Legacy.Range.size]
 by_cases e1:a1=b1<;>by_cases e2:a2=b2<;>by_cases e3:a3=b3<;>simp [e1,e2,e3]
theorem zbD {x y : Operand} {t t2 e : TypeId} {kd k2 : IntKind} {a1 a2 a3 b1 b2 b3 : Int} (hs : St n F w0 S M a w) (hx : evo F x = some (.agg #[.int kd a1, .int kd a2, .int kd a3])) (hy : evo F y = some (.agg #[.int kd b1, .int kd b2, .int kd b3]))
   (hg:P.eqGuardType P.depth t=false) (ht:P.underlying t=some (.array 3 e)) (he:P.underlying e=some (.int k2)) (hsz:∀ w,(sizeOf e).run P w = .ok 1 w) (hag:∀ w,(isAgg e).run P w = .ok false w) (hd:Nat.blt d n=true)
   (k:∀ a w,St n ((d,.bool (a1==b1 && a2==b2 && a3==b3))::F) w0 S M a w→wpList P ops Q rest a w):wpList P ops Q (⟨some d,.binOp .eql t x y t2,ty,pos,af,none⟩::rest) a w :=
 zM hs (by simp [execOp,hs.ev hx,hs.ev hy,run_eqGuard_agg w .eql t x y _ _ hg,run_eql_struct,zXS 9998 w ht he hsz hag]) hd k
theorem Mem.rd1 {v:Value} {size m:Nat} {xs:List Value} {M' X:List HA} (hm:Mem w0 S M w) (h:Rd w0 S v size m xs) (d:zC5 M X M'):Rd w (zN X) v size m xs:=hm.rd h d.sub
theorem Mem.keep {g:Nat} {cs:List Value} {t:TypeId} (hm:Mem w0 S M w) (h:(blk g cs t).p w0) (hn:g ∉ S):(blk g cs t).p w :=
 (blk g cs t).loc w0 w (λk hk=>by
  simp only [blk,List.mem_singleton] at hk
  subst hk
  exact hm.chg.block _ ((blk k cs t).lt w0 h k (by simp [blk])) hn) h
theorem Mem.apart {g k:Nat} {cs ds:List Value} {t u:TypeId} {M' M'':List HA} (hm:Mem w0 S M w) (dl:Del M (blk g cs t) M') (d2:zC5 M' [blk k ds u] M''):g≠k:=by
 intro e
 subst e
 have hn:=List.nodup_append.1 (dl.perm.nodup_iff.1 hm.nd)
 exact hn.2.2 g (by simp [blk]) g (d2.sub _ (by simp [zN,blk])) rfl
theorem zAX : ∀ u∈([]:List Value),u.oneCell'=true:=by simp
theorem zF {v:Value} {r:List Value} (h:v.oneCell'=true) (h2:∀ u∈r,u.oneCell'=true):∀ u∈v::r,u.oneCell'=true:=by
 intro u hu
 rcases List.mem_cons.1 hu with rfl | hu
 · exact h
 · exact h2 u hu
variable {P : Program} {ops : Array Oper} {Q : Exit → Act → World → Prop} {n : Nat} {F : List (Nat × Value)} {w0 : World} {S : List Nat} {M M0 : List HA} {a : Act} {w : World}
theorem Mem.perm {M M':List HA} (h:Mem w0 S M w) (hp:M.Perm M'):Mem w0 S M' w:=by
 have hf:(zN M).Perm (zN M'):=hp.flatMap_right _
 exact ⟨h.chg,λy hy=>h.all y (hp.mem_iff.2 hy),hf.nodup_iff.1 h.nd,λk hk=>h.ge k (hf.mem_iff.2 hk)⟩
theorem zC5.app : ∀ (X M:List HA),zC5 (X++M) X M
 | [],M=>.n
 | x::X,M=>.c .z (zC5.app X M)
theorem zOE {c:Nat→List HA} {k:Nat}:∀ (L:List Nat),L.Nodup→k∈L→(L.flatMap c).Perm (c k++L.flatMap λi=>if i=k then [] else c i)
 | [],_,h=>by simp at h
 | x::L,hn,h=>by
  obtain ⟨hx,hn⟩:=List.nodup_cons.1 hn
  by_cases e:x=k
  ·subst e
   have:(L.flatMap λi=>if i=x then [] else c i)=L.flatMap c:=by
    rw [List.flatMap_def,List.flatMap_def]
    congr 1
    refine List.map_congr_left λi hi=>?_
    rw [if_neg (show ¬ i=x from λe=>hx (by rw [← e];exact hi))]
   simp only [List.flatMap_cons,if_pos,List.nil_append,this]
   exact List.Perm.refl _
  ·have hk:k∈L:=by simpa [Ne.symm e] using h
   simp only [List.flatMap_cons,if_neg e]
   refine (List.Perm.append_left _ (zOE L hn hk)).trans ?_
   rw [← List.append_assoc,← List.append_assoc]
   exact List.Perm.append_right _ List.perm_append_comm
theorem zEx {L:List Nat} (hL:L.Nodup):∀ (ks:List Nat) (c:Nat→List HA),ks.Nodup→(∀ k∈ks,k∈L)→(L.flatMap c).Perm (ks.flatMap c++L.flatMap λi=>if i∈ks then [] else c i)
 | [],c,_,_=>by simp
 | k::ks,c,hn,hs=>by
  obtain ⟨hk,hn⟩:=List.nodup_cons.1 hn
  refine (zOE L hL (hs k (by simp))).trans ?_
  simp only [List.flatMap_cons,List.append_assoc]
  refine List.Perm.append_left _ ?_
  refine (zEx hL ks (λi=>if i=k then [] else c i) hn λi hi=>hs i (by simp [hi])).trans ?_
  have e1:(ks.flatMap λi=>if i=k then [] else c i)=ks.flatMap c:=by
   rw [List.flatMap_def,List.flatMap_def]
   congr 1
   refine List.map_congr_left λi hi=>?_
   rw [if_neg (show ¬ i=k from λe=>hk (by rw [← e];exact hi))]
  have e2:(λi=>if i∈ks then [] else if i=k then [] else c i)=λi=>if i∈k::ks then [] else c i:=by
   funext i
   by_cases h1:i=k
   ·simp [h1]
   ·by_cases h2:i∈ks<;>simp [h1,h2]
  rw [e1,e2]
structure OS where
 X:List HA
 use:List Nat
 dep:List Nat
 vp:(Nat→Value)→Prop
 N:(Nat→Value)→List HA
 was:Option Value
def OS.nil : OS:=⟨[],[],[],λ_=>True,λ_=>[],none⟩
abbrev Pv (i:Nat) (v:Value):OS:=⟨[],[],[],λvs=>vs i=v,λ_=>[],none⟩
def OS.m (D:OS) (i:Nat) (vs:Nat→Value):Nat→Value:=λk=>bif k==i || D.dep.elem k then vs k else undef
def zAa (Ds:List OS) (i:Nat):OS:=(Ds[i]?).getD OS.nil
def zH7 (Ds:List OS) (ls:Nat→Bool) (i:Nat):Prop:=∃ j,ls j=true∧i∈(zAa Ds j).use
open Classical in
noncomputable def zFd (Ds:List OS) (ls:Nat→Bool) (vs:Nat→Value) (i:Nat):List HA:=if ls i=true then (if zH7 Ds ls i then [] else (zAa Ds i).N ((zAa Ds i).m i vs)) else (zAa Ds i).X
def zBz (l:List Oper) (i:Nat) (v:Value) (a:Act):Prop:=∀ o d,l[i]? = some o→o.dst=some d→a.tmps[d]? = some v
def zPD (l:List Oper) (j i:Nat):Prop:=∃ o,l[j]? = some o∧∃ e∈o.after,Region.binds .any e=true∧e.on=i
def zW0 (vs:Nat→Value) (i:Nat) (v:Value):Nat→Value:=λk=>bif k==i then v else vs k
def RG (n:Nat) (F:List (Nat×Value)) (a:Act) (w:World) (o:Oper) (own:List HA) (D:OS) (i:Nat) (vs:Nat→Value) (a':Act) (w':World):Prop :=
 ∃ v G,St n G w [] [] a w∧zFc F G∧St n ((o.dst.toList.map λd=>(d,v))++G) w (zN own) (D.N (D.m i (zW0 vs i v))) a' w'∧D.vp (D.m i (zW0 vs i v))
def QG (n:Nat) (F:List (Nat×Value)) (a:Act) (w:World) (o:Oper) (own:List HA) (D:OS) (i:Nat) (vs:Nat→Value):Exit→Act→World→Prop :=
 λe a' w'=>e = .normal∧RG n F a w o own D i vs a' w'
def zDV (D:OS) (Ds:List OS) (vs:Nat→Value):List HA:=D.X++D.use.flatMap λk=>(zAa Ds k).N ((zAa Ds k).m k vs)
inductive TW (l:List Oper):Nat→Nat→Prop
 | one {j k}:zPD l j k→TW l j k
 | more {j m k}:zPD l j m→TW l m k→TW l j k
def twB (l:List Oper) (k:Nat):Nat→Nat→Bool
 | 0,_=>false
 | f+1,j=>match l[j]? with
  | none=>false
  | some o=>o.after.any λe=>Region.binds .any e && (Nat.beq e.on k || (Nat.blt k e.on && twB l k f e.on))
theorem zJ {l:List Oper} {k:Nat}:∀ (f j:Nat),twB l k f j=true→TW l j k:=by
 intro f
 induction f with
 | zero=>intro j h;simp [twB] at h
 | succ f ih =>
  intro j h
  simp only [twB] at h
  split at h
  ·cases h
  ·rename_i o ho
   rw [← Array.any_toList,List.any_eq_true] at h
   obtain ⟨e,he,h2⟩:=h
   simp only [Bool.and_eq_true,Bool.or_eq_true] at h2
   have hw:zPD l j e.on:=⟨o,ho,e,Array.mem_toList_iff.1 he,h2.1,rfl⟩
   rcases h2.2 with h3 | h3
   ·have:=Nat.eq_of_beq_eq_true h3
    subst this
    exact .one hw
   ·exact .more hw (ih _ h3.2)
def zTR (l:List Oper) (Ds:List OS) (rest:List HA) (vs:Nat→Value) (i k:Nat) (a:Act):Prop:=zBz l k (vs k) a∧(zAa Ds k).vp ((zAa Ds k).m k vs)∧((∀ j,k∈(zAa Ds j).use→TW l j i)→∀ h∈(zAa Ds k).N ((zAa Ds k).m k vs),h∈rest)
def zOT (l:List Oper) (i k n:Nat):Nat→List OS→Bool
 | _,[]=>true
 | j,D::Ds=>(!(D.use.elem k) || twB l i n j) && zOT l i k n (j+1) Ds
theorem zM4 {l:List Oper} {i k n:Nat}:∀ (Ds:List OS) (j0:Nat),zOT l i k n j0 Ds=true→∀ j,k∈(zAa Ds j).use→TW l (j0+j) i:=by
 intro Ds
 induction Ds with
 | nil=>intro j0 _ j hj;unfold zAa at hj;simp [OS.nil] at hj
 | cons D Ds ih =>
  intro j0 h j hj
  simp only [zOT,Bool.and_eq_true,Bool.or_eq_true,Bool.not_eq_true'] at h
  cases j with
  | zero =>
   have hj':k∈D.use:=by simpa [zAa] using hj
   rcases h.1 with h1 | h1
   ·rw [show List.elem k D.use=true from List.elem_iff.2 hj'] at h1;cases h1
   ·exact zJ _ _ h1
  | succ j =>
   have:=ih (j0+1) h.2 j (by simpa [zAa] using hj)
   rwa [show j0+1+j=j0+(j+1) by omega] at this
theorem zHo {l:List Oper} {Ds:List OS} {i k n:Nat} (h:zOT l i k n 0 Ds=true):∀ j,k∈(zAa Ds j).use→TW l j i:=λj hj=>by
 have:=zM4 Ds 0 h j hj
 rwa [Nat.zero_add] at this
def zTV (P:Program) (l:List Oper) (n:Nat) (F:List (Nat×Value)) (w0:World) (S:List Nat) (M0:List HA) (Ds:List OS) (i:Nat) (o:Oper) (D:OS):Prop :=
 ∀ a w R rest vs,Mem w0 S (zDV D Ds vs++(M0++rest)) w→St n (F++R) w (zN (zDV D Ds vs)) (zDV D Ds vs) a w→(∀ k,TW l i k→zTR l Ds rest vs i k a)→(∀ j,TW l j i→(∀ h∈(zAa Ds j).X,h∈rest)∧∀ u,(zAa Ds j).was=some u→zBz l j u a) →
  wpList P l.toArray (QG n (F++R) a w o (zDV D Ds vs) D i vs) [o] a w
inductive zHK (P:Program) (l:List Oper) (n:Nat) (F:List (Nat×Value)) (w0:World) (S:List Nat) (M0:List HA) (Ds:List OS):Nat→List Oper→List OS→Prop
 | n {i}:zHK P l n F w0 S M0 Ds i [] []
 | c {i o r D ds}:zTV P l n F w0 S M0 Ds i o D→zHK P l n F w0 S M0 Ds (i+1) r ds→zHK P l n F w0 S M0 Ds i (o::r) (D::ds)
theorem zHK.get {l:List Oper} {Ds:List OS} {r:List Oper} {ds:List OS} {j:Nat} (h:zHK P l n F w0 S M0 Ds j r ds):r.length=ds.length∧∀ (i:Nat) (o:Oper),r[i]? = some o→zTV P l n F w0 S M0 Ds (j+i) o (zAa ds i):=by
 induction h with
 | n=>exact ⟨rfl,λi o h=>by simp at h⟩
 | @c j o' r D ds h _ ih =>
  refine ⟨by simp [ih.1],λi o hi=>?_⟩
  cases i with
  | zero=>simp only [List.getElem?_cons_zero,Option.some.injEq] at hi;subst hi;exact h
  | succ i=>have:=ih.2 i o (by simpa using hi);rw [show j+(i+1)=j+1+i by omega];exact this
def zHQ (F:List (Nat×Value)) (l:List Oper):Bool :=
 (l.zipIdx.all λx=>x.1.after.all λe=>!(Region.binds .any e) || Nat.blt e.on x.2) && (l.all λo=>F.all λp=>!(o.dst==some p.1)) && (l.zipIdx.all λx=>l.zipIdx.all λy=>Nat.beq x.2 y.2 || x.1.dst.isNone || !(x.1.dst==y.1.dst))
def zHH (l:List Oper) (us ds:List (List Nat)):Bool :=
 (us.zipIdx.all λx=>x.1.all λk=>twB l k l.length x.2) && (ds.zipIdx.all λx=>x.1.all λk=>twB l k l.length x.2) && us.flatten.Nodup
theorem zFD {l : List Oper} (h : zHQ F l = true) : (∀ (i : Nat) (o : Oper), l[i]? = some o → ∀ e ∈ o.after, Region.binds .any e = true → e.on < i) ∧ (∀ (i : Nat) (o : Oper), l[i]? = some o → ∀ d, o.dst = some d → ∀ p ∈ F, d ≠ p.1) ∧
   (∀ (i j:Nat) (o o':Oper),l[i]? = some o→l[j]? = some o'→i≠j→∀ d,o.dst=some d→o'.dst≠some d):=by
 simp only [zHQ,Bool.and_eq_true,List.all_eq_true] at h
 have hz:∀ (i:Nat) (o:Oper),l[i]? = some o→(o,i)∈l.zipIdx:=λi o hi=>by
   rw [List.mem_zipIdx_iff_getElem?];exact hi
 refine ⟨λi o hi e he hb=>?_,λi o hi d hd p hp e=>?_,λi j o o' hi hj hne d hd hd'=>?_⟩
 · have h1:=h.1.1 _ (hz i o hi)
   rw [Array.all_eq_true_iff_forall_mem] at h1
   have:=h1 e he
   simpa [hb] using this
 · have h1:=h.1.2 o (List.mem_of_getElem? hi) p hp
   simp [hd,e] at h1
 · have h1:=h.2 _ (hz i o hi) _ (hz j o' hj)
   simp only [Bool.or_eq_true] at h1
   rcases h1 with (h1 | h1) | h1
   · exact absurd (Nat.eq_of_beq_eq_true h1) hne
   · simp [hd] at h1
   · simp [hd,hd'] at h1
theorem zEA {l:List Oper} {Ds:List OS} (h:zHH l (Ds.map (·.use)) (Ds.map (·.dep))=true):(∀ j k,k∈(zAa Ds j).use→TW l j k)∧(∀ j,(zAa Ds j).use.Nodup)∧(∀ i j k,k∈(zAa Ds i).use→k∈(zAa Ds j).use→i=j)∧(∀ j k,k∈(zAa Ds j).dep→TW l j k):=by
 simp only [zHH,Bool.and_eq_true,List.all_eq_true] at h
 have hn:((Ds.map (·.use)).flatten).Nodup:=of_decide_eq_true h.2
 have hget:∀ (f:OS→List Nat),f OS.nil=[]→∀ j k,k∈f (zAa Ds j)→∃ hj:j<Ds.length,k∈f (Ds[j]):=λf hf j k hk=>by
  unfold zAa at hk
  rcases Nat.lt_or_ge j Ds.length with hj | hj
  ·rw [List.getElem?_eq_getElem hj] at hk;exact ⟨hj,hk⟩
  ·rw [List.getElem?_eq_none hj] at hk;simp [hf] at hk
 rw [List.Nodup,List.pairwise_flatten] at hn
 refine ⟨λj k hk=>?_,λj=>?_,λi j k hi hj=>?_,λj k hk=>?_⟩
 ·obtain ⟨hj,hk⟩:=hget (·.use) rfl j k hk
  exact zJ _ _ (h.1.1 ((Ds[j]).use,j) (by rw [List.mem_zipIdx_iff_getElem?];simp [hj]) k hk)
 ·unfold zAa
  rcases Nat.lt_or_ge j Ds.length with hj | hj
  ·rw [List.getElem?_eq_getElem hj]
   exact hn.1 _ (List.mem_map.2 ⟨Ds[j],List.getElem_mem hj,rfl⟩)
  ·rw [List.getElem?_eq_none hj];simp [OS.nil]
 ·obtain ⟨hi',hi⟩:=hget (·.use) rfl i k hi
  obtain ⟨hj',hj⟩:=hget (·.use) rfl j k hj
  have hp:=hn.2
  rw [List.pairwise_iff_getElem] at hp
  rcases Nat.lt_trichotomy i j with h1 | h1 | h1
  ·have:=hp i j (by simpa using hi') (by simpa using hj') h1
   simp only [List.getElem_map] at this
   exact absurd rfl (this k hi k hj)
  ·exact h1
  ·have:=hp j i (by simpa using hj') (by simpa using hi') h1
   simp only [List.getElem_map] at this
   exact absurd rfl (this k hj k hi)
 ·obtain ⟨hj,hk⟩:=hget (·.dep) rfl j k hk
  exact zJ _ _ (h.1.2 ((Ds[j]).dep,j) (by rw [List.mem_zipIdx_iff_getElem?];simp [hj]) k hk)
theorem zGc {o : Oper} {R : Act → World → Prop} {a : Act} {w : World} {K : Act → World → Prop} (h : wpList P ops (fun e a w => e = .normal ∧ R a w) [o] a w) (hK : ∀ a' w', R a' w' → K a' w') :
   if Region.wanted o (yielded ops a.tmps) then o.wp P a w K Q∨(o.asks P a w∧LetsOut Q) else K (a.put o.dst undef) w:=by
 unfold wpList at h
 split
 · rename_i hw
   rw [if_pos hw] at h
   rcases h with h | ⟨_,a₀,w₀,hq,_⟩
   · left
     unfold Oper.wp at *
     generalize (execOp a.eval o).run P w=r at *
     cases r with
     | ok nx w' =>
       cases nx<;>simp only [Oper.upon] at h ⊢ <;>
         first
           | exact hK _ _ h.2
           | exact Calls.mono h (fun e w'' he => by
               cases e with
               | returned v=>exact hK _ _ he.2
               | panicked c=>exact absurd he.1 (by simp)
               | outgrown=>obtain ⟨_,_,he,_⟩:=he;exact absurd he (by simp))
           | exact Rows.mono h (λ_ _ he=>hK _ _ he.2)
     | halt hh w' =>
       cases hh<;>simp only [Oper.upon] at h ⊢
       exact absurd h.1 (by simp)
   · exact absurd hq (by simp)
 · rename_i hw
   rw [if_neg hw] at h
   exact hK _ _ h.2
theorem zbv {F' G' H:List (Nat×Value)} {SS:List Nat} {N:List HA} {a':Act} {w':World} (h0:St n G' w [] [] a w) (hc:zFc (F'++zF3 n a) G') (hs':St n (H++G') w SS N a' w'):∀ t,lk H t=none→a'.tmps[t]? = a.tmps[t]?:=by
 intro t ht
 rcases Nat.lt_or_ge t n with hlt | hge
 · have hcov : ∃ u, lk (F' ++ zF3 n a) t = some u := by
     rw [zD6,zKE,if_pos hlt]
     cases lk F' t<;>simp
   obtain ⟨u,hu⟩:=hcov
   obtain ⟨u',hu'⟩:=hc.get t u hu
   rw [h0.agr t u' hu',hs'.agr t u' (by rw [zD6,ht,Option.none_or];exact hu')]
 · rw [Array.getElem?_eq_none (by rw [hs'.size];exact hge),Array.getElem?_eq_none (by rw [h0.size];exact hge)]
structure zN4 (l:List Oper) (n:Nat) (F:List (Nat×Value)) (w0:World) (S:List Nat) (M0:List HA) (Ds:List OS) (listed:Array Bool) (vs:Nat→Value) (a:Act) (w:World):Prop where
 st:St n F w0 S (M0++(List.range l.length).flatMap (zFd Ds (λi=>listed.getD i false) vs)) a w
 sz:listed.size=l.length
 fact:∀ i,i<l.length→listed.getD i false=true→zBz l i (vs i) a∧(zAa Ds i).vp ((zAa Ds i).m i vs)
 closed:∀ i,listed.getD i false=true→∀ k,TW l i k→listed.getD k false=true
 old:∀ j,j<l.length→listed.getD j false=false→∀ u,(zAa Ds j).was=some u→zBz l j u a
theorem zN4.own {l : List Oper} {Ds : List OS} {listed : Array Bool} {vs : Nat → Value} {i : Nat} {o : Oper} (hg : zHQ F l = true) (hu : zHH l (Ds.map (·.use)) (Ds.map (·.dep)) = true) (h : zN4 l n F w0 S M0 Ds listed vs a w) (ho : l[i]? = some o)
   (hno:listed.getD i false=false) (hall:∀ k,TW l i k→listed.getD k false=true):(∀ i k,TW l i k→k<i)∧(i::(zAa Ds i).use).Nodup∧(∀ k∈i::(zAa Ds i).use,k∈List.range l.length) ∧
   (i::(zAa Ds i).use).flatMap (zFd Ds (λi=>listed.getD i false) vs)=zDV (zAa Ds i) Ds vs:=by
 obtain ⟨hfw,_,_⟩:=zFD hg
 obtain ⟨hw,hnd,huq,hdp⟩:=zEA hu
 have hil:i<l.length:=(List.getElem?_eq_some_iff.1 ho).1
 have hback1:∀ i k,zPD l i k→k<i:=by
   rintro i k ⟨o',ho',e,he,hb,rfl⟩
   exact hfw i o' ho' e he hb
 have hback:∀ i k,TW l i k→k<i:=by
   intro i k h
   induction h with
   | one h=>exact hback1 _ _ h
   | more h _ ih=>exact Nat.lt_trans ih (hback1 _ _ h)
 refine ⟨hback,List.nodup_cons.2 ⟨λhi=>Nat.lt_irrefl _ (hback i i (hw i i hi)),hnd i⟩,λk hk=>?_,?_⟩
 · rw [List.mem_range]
   rcases List.mem_cons.1 hk with rfl | hk
   · exact hil
   · exact Nat.lt_trans (hback i k (hw i k hk)) hil
 · unfold zDV
   rw [List.flatMap_cons]
   congr 1
   · unfold zFd
     rw [if_neg (by show ¬ listed.getD i false=true;rw [hno];simp)]
   · rw [List.flatMap_def,List.flatMap_def]
     congr 1
     refine List.map_congr_left λk hk=>?_
     have hlk:=hall k (hw i k hk)
     unfold zFd
     rw [if_pos hlk,if_neg]
     rintro ⟨j,hj,hkj⟩
     have:=huq j i k hkj hk
     subst this
     have hj:listed.getD j false=true:=hj
     rw [hno] at hj
     cases hj
theorem zGL {A B C:List HA}:(A++(B++C)).Perm (B++(A++C)):=by
 rw [← List.append_assoc,← List.append_assoc]
 exact List.Perm.append_right _ List.perm_append_comm
theorem zN4.step {l : List Oper} {Ds : List OS} {listed : Array Bool} {vs : Nat → Value} {i : Nat} {o : Oper} (hg : zHQ F l = true) (hu : zHH l (Ds.map (·.use)) (Ds.map (·.dep)) = true) (h : zN4 l n F w0 S M0 Ds listed vs a w) (ho : l[i]? = some o)
   (hno:listed.getD i false=false) (hall:∀ k,TW l i k→listed.getD k false=true) {a':Act} {w':World} (hr:RG n (F++zF3 n a) a w o (zDV (zAa Ds i) Ds vs) (zAa Ds i) i vs a' w') :
   ∃ vs',zN4 l n F w0 S M0 Ds (listed.setIfInBounds i true) vs' a' w':=by
 obtain ⟨hback,hknd,hkr,hown⟩:=h.own hg hu ho hno hall
 obtain ⟨hfw,hbase,hdis⟩:=zFD hg
 obtain ⟨hw,hnd,huq,hdp⟩:=zEA hu
 obtain ⟨v,G,hs0,hcov,hs',hvp⟩:=hr
 have hk:=zbv hs0 hcov hs'
 have hil:i<l.length:=(List.getElem?_eq_some_iff.1 ho).1
 have hsz:i<listed.size:=by rw [h.sz];exact hil
 have hls:∀ k,(listed.setIfInBounds i true).getD k false=if k=i then true else listed.getD k false:=λk=>by
   by_cases e:k=i
   · subst e;simp [Array.getD_eq_getD_getElem?,Array.getElem?_setIfInBounds,hsz]
   · have hne:¬ i=k:=λe'=>e e'.symm
     simp [Array.getD_eq_getD_getElem?,Array.getElem?_setIfInBounds,e,hne]
 have hdn:∀ t,(∀ d,o.dst=some d→t≠d)→lk (o.dst.toList.map λd=>(d,v)) t=none:=λt ht=>by
   cases hd:o.dst with
   | none=>rfl
   | some d =>
     have:=ht d hd
     simp only [Option.toList_some,List.map_cons,List.map_nil]
     rw [zBT,if_neg (λe=>this e.symm)]
     rfl
 let vs':Nat→Value:=zW0 vs i v
 have hvi:vs' i=v:=by simp [vs',zW0]
 have hvo:∀ k,k≠i→vs' k=vs k:=λk hk=>by
   have:(k==i)=false:=beq_eq_false_iff_ne.2 hk
   simp [vs',zW0,this]
 have hmo:∀ k,k≠i→listed.getD k false=true→(zAa Ds k).m k vs'=(zAa Ds k).m k vs:=λk hki hlk=>by
   funext j
   unfold OS.m
   cases hb:j==k || (zAa Ds k).dep.elem j with
   | false=>rfl
   | true =>
     simp only [cond_true]
     refine hvo j λe=>?_
     subst e
     rw [Bool.or_eq_true] at hb
     rcases hb with hb | hb
     · exact hki (by simpa using (eq_of_beq hb).symm)
     · have:=h.closed k hlk j (hdp k j (List.elem_iff.1 hb))
       rw [hno] at this
       cases this
 have hmem:=h.st.mem.perm ((List.Perm.append_left M0 ((zEx List.nodup_range (i::(zAa Ds i).use) _ hknd hkr).trans (List.Perm.append_right _ (by rw [hown])))).trans zGL)
 have hfr:=hmem.frame (zC5.app _ _) hs'.mem
 refine ⟨vs',⟨hs'.size,hs'.dfr,λt u hu=>?_,?_⟩,by simp [h.sz],λj hj hl=>?_,λj hj k hwk=>?_,λj hj hl u hu=>?_⟩
 · rw [hk t (hdn t λd hd e=>?_)]
   · exact h.st.agr t u hu
   · obtain ⟨q,hq,e'⟩:=zWP hu
     exact hbase i o ho d hd q hq (e.symm.trans e'.symm)
 · refine hfr.perm ?_
   have hp:=zEx List.nodup_range (i::(zAa Ds i).use) (zFd Ds (λi_1=>(listed.setIfInBounds i true).getD i_1 false) vs') hknd hkr
   have hi:zFd Ds (λi_1=>(listed.setIfInBounds i true).getD i_1 false) vs' i=(zAa Ds i).N ((zAa Ds i).m i vs'):=by
     unfold zFd
     rw [if_pos ((hls i).trans (if_pos rfl)),if_neg]
     · rintro ⟨j,hj,hij⟩
       have hwj:=hw j i hij
       replace hj:=(hls j).symm.trans hj
       by_cases e:j=i
       · subst e
         exact Nat.lt_irrefl _ (hback j j hwj)
       · rw [if_neg e] at hj
         have:=h.closed j hj i hwj
         rw [hno] at this
         cases this
   have huse:(zAa Ds i).use.flatMap (zFd Ds (λi_1=>(listed.setIfInBounds i true).getD i_1 false) vs')=[]:=by
     rw [List.flatMap_eq_nil_iff]
     intro k hk
     unfold zFd
     have hki:k≠i:=λe=>by subst e;exact Nat.lt_irrefl _ (hback k k (hw k k hk))
     rw [if_pos ((hls k).trans ((if_neg hki).trans (hall k (hw i k hk)))),if_pos ⟨i,(hls i).trans (if_pos rfl),hk⟩]
   have hrest:(λk=>if k∈i::(zAa Ds i).use then [] else zFd Ds (λi_1=>(listed.setIfInBounds i true).getD i_1 false) vs' k)=λk=>if k∈i::(zAa Ds i).use then [] else zFd Ds (λi=>listed.getD i false) vs k:=by
     funext k
     by_cases hm:k∈i::(zAa Ds i).use
     · rw [if_pos hm,if_pos hm]
     · rw [if_neg hm,if_neg hm]
       have hki:¬ k=i:=λe=>hm (by simp [e])
       have hku:k ∉ (zAa Ds i).use:=λe=>hm (by simp [e])
       have ht:zH7 Ds (λi_1=>(listed.setIfInBounds i true).getD i_1 false) k↔zH7 Ds (λi=>listed.getD i false) k:=by
         constructor
         · rintro ⟨j,hj,hkj⟩
           replace hj:=(hls j).symm.trans hj
           by_cases e:j=i
           · subst e;exact absurd hkj hku
           · rw [if_neg e] at hj;exact ⟨j,hj,hkj⟩
         · rintro ⟨j,hj,hkj⟩
           exact ⟨j,(hls j).trans (by split<;>simp_all),hkj⟩
       unfold zFd
       simp only [hls,if_neg hki]
       by_cases hlk:listed.getD k false=true
       case neg=>rw [if_neg hlk,if_neg hlk]
       rw [if_pos hlk,if_pos hlk,hmo k hki hlk]
       by_cases ht1:zH7 Ds (λi=>listed.getD i false) k
       · rw [if_pos (ht.2 ht1),if_pos ht1]
       · rw [if_neg (λh=>ht1 (ht.1 h)),if_neg ht1]
   rw [List.flatMap_cons,hi,huse,List.append_nil,hrest] at hp
   exact zGL.trans (List.Perm.append_left M0 hp.symm)
 · by_cases e:j=i
   · subst e
     refine ⟨λo' d h1 h2=>?_,hvp⟩
     rw [ho] at h1
     injection h1 with h1
     subst h1
     have:=hs'.agr d v (by rw [h2];simp [zBT])
     rw [hvi]
     exact this
   · rw [hls,if_neg e] at hl
     obtain ⟨h1,h2⟩:=h.fact j hj hl
     refine ⟨λo' d h3 h4=>?_,by rw [hmo j e hl];exact h2⟩
     rw [hk d (hdn d λd' hd' e'=>?_)]
     · rw [hvo j e];exact h1 o' d h3 h4
     · subst e'
       exact hdis j i o' o h3 ho e d h4 hd'
 · rw [hls] at hj ⊢
   split
   · rfl
   · by_cases e:j=i
     · subst e;exact hall k hwk
     · rw [if_neg e] at hj;exact h.closed j hj k hwk
 · rw [hls] at hl
   by_cases e:j=i
   · rw [if_pos e] at hl;cases hl
   · rw [if_neg e] at hl
     have h1:=h.old j hj hl u hu
     intro o' d h3 h4
     rw [hk d (hdn d λd' hd' e'=>?_)]
     · exact h1 o' d h3 h4
     · subst e'
       exact hdis j i o' o h3 ho e d h4 hd'
theorem zIA {l:List Oper} {listed:Array Bool} (hfw:∀ (i:Nat) (o:Oper),l[i]? = some o→∀ e∈o.after,Region.binds .any e=true→e.on<i) (hsz:listed.size=l.toArray.size) (hr:Region.ready .any l.toArray listed=[]):∀ i,i<l.length→listed.getD i false=true:=by
 intro i
 induction i using Nat.strongRecOn with
 | _ i ih =>
  intro hi
  cases hb:listed.getD i false with
  | true=>rfl
  | false =>
   exfalso
   have hmem:i∈Region.ready .any l.toArray listed:=by
    rw [mem_ready]
    refine ⟨?_,l[i],by simp,λe he hbi=>ih e.on (hfw i l[i] (by simp) e he hbi) (Nat.lt_trans (hfw i l[i] (by simp) e he hbi) hi)⟩
    have:i<listed.size:=by rw [hsz];simpa using hi
    simp only [Array.getD_eq_getD_getElem?,Array.getElem?_eq_getElem this] at hb ⊢
    exact hb
   rw [hr] at hmem
   cases hmem
theorem zPj {l : List Oper} {Ds : List OS} (hg : zHQ F l = true) (hu : zHH l (Ds.map (·.use)) (Ds.map (·.dep)) = true) (hst : zHK P l n F w0 S M0 Ds 0 l Ds)
   (hfin:∀ listed vs a w,zN4 l n F w0 S M0 Ds listed vs a w→(∀ i,i<l.length→listed.getD i false=true)→Q .normal a w) :
   ∀ (fuel:Nat) (listed:Array Bool) (vs:Nat→Value) (a:Act) (w:World),listed.toList.count false≤fuel→zN4 l n F w0 S M0 Ds listed vs a w→wpAny P .any l.toArray Q fuel listed a w:=by
 obtain ⟨hfw,hbase,hdis⟩:=zFD hg
 have hend:∀ (listed:Array Bool) (vs:Nat→Value) (a:Act) (w:World),zN4 l n F w0 S M0 Ds listed vs a w→Region.ready .any l.toArray listed=[]→Q .normal a w:=λlisted vs a w h hr =>
   hfin listed vs a w h λi hi=>zIA hfw (by simpa using h.sz) hr i hi
 intro fuel
 induction fuel with
 | zero =>
   intro listed vs a w hc h
   have hr:Region.ready .any l.toArray listed=[]:=by
     rw [List.eq_nil_iff_forall_not_mem]
     intro j hj
     obtain ⟨h1,o,ho,_⟩:=mem_ready.1 hj
     have hlt:j<listed.size:=by rw [h.sz];simpa using (Array.getElem?_eq_some_iff.1 ho).1
     have h2:listed[j]=false:=by simpa [Array.getD_eq_getD_getElem?,Array.getElem?_eq_getElem hlt] using h1
     have h3:false∈listed.toList:=by rw [← h2];simp
     have:=List.count_pos_iff.2 h3
     omega
   exact ⟨hr,hend listed vs a w h hr⟩
 | succ fuel ih =>
   intro listed vs a w hc h
   refine ⟨hend listed vs a w h,λi hi=>?_⟩
   obtain ⟨h1,o,ho,hall⟩:=mem_ready.1 hi
   have ho':l[i]? = some o:=by simpa using ho
   have hlt:i<listed.size:=by rw [h.sz];simpa using (Array.getElem?_eq_some_iff.1 ho).1
   have h2:listed[i]=false:=by simpa [Array.getD_eq_getD_getElem?,Array.getElem?_eq_getElem hlt] using h1
   have hno:listed.getD i false=false:=by simp [Array.getD_eq_getD_getElem?,Array.getElem?_eq_getElem hlt,h2]
   have hall1:∀ k,zPD l i k→listed.getD k false=true:=by
     rintro k ⟨o',ho2,e,he,hb,rfl⟩
     rw [ho'] at ho2
     injection ho2 with ho2
     subst ho2
     exact hall e he hb
   have hall':∀ k,TW l i k→listed.getD k false=true:=by
     intro k hk
     cases hk with
     | one h1=>exact hall1 _ h1
     | more h1 h2=>exact h.closed _ (hall1 _ h1) _ h2
   obtain ⟨hback,hknd,hkr,hown⟩:=h.own hg hu ho' hno hall'
   have hmem:=h.st.mem.perm ((List.Perm.append_left M0 ((zEx List.nodup_range (i::(zAa Ds i).use) _ hknd hkr).trans (List.Perm.append_right _ (by rw [hown])))).trans zGL)
   have hil:i<l.length:=by simpa using (Array.getElem?_eq_some_iff.1 ho).1
   have hnd:=hmem.nd
   rw [zAs] at hnd
   have htr:=hst.get.2 i o ho'
   rw [Nat.zero_add] at htr
   have hq:=htr a w (zF3 n a) _ vs hmem ⟨h.st.size,h.st.dfr,h.st.full.agr,⟨Chg.refl _ _,λy hy=>hmem.all y (by simp [hy]),(List.nodup_append.1 hnd).1,λk hk=>.inl hk⟩⟩ (λk hwk=>by
     have hlk:=hall' _ hwk
     have hke:k<i:=hback i _ hwk
     obtain ⟨f1,f2⟩:=h.fact k (by omega) hlk
     refine ⟨f1,f2,λhfree y hy=>?_⟩
     have hii:¬ TW l i i:=λh1=>Nat.lt_irrefl _ (hback i i h1)
     refine List.mem_flatMap.2 ⟨k,by rw [List.mem_range];omega,?_⟩
     rw [if_neg (by
       rintro hm
       rcases List.mem_cons.1 hm with hm | hm
       · omega
       · exact hii (hfree i hm))]
     unfold zFd
     rw [if_pos hlk,if_neg (by
       rintro ⟨j,hlj,hj⟩
       have:=h.closed j hlj i (hfree j hj)
       rw [hno] at this
       cases this)]
     exact hy) (λj hj=>by
     have hij:i<j:=hback j i hj
     have hlj:listed.getD j false=false:=by
       cases hb:listed.getD j false with
       | false=>rfl
       | true =>
         have:=h.closed j hb i hj
         rw [hno] at this
         cases this
     have hjl:j<l.length:=by
       rcases hj with ⟨o',ho2,_⟩ | ⟨⟨o',ho2,_⟩,_⟩<;>exact (List.getElem?_eq_some_iff.1 ho2).1
     refine ⟨λy hy=>?_,λu hu=>h.old j hjl hlj u hu⟩
     refine List.mem_flatMap.2 ⟨j,by rw [List.mem_range];exact hjl,?_⟩
     rw [if_neg (by
       rintro hm
       rcases List.mem_cons.1 hm with hm | hm
       · omega
       · have:=hback i j ((zEA hu).1 i j hm)
         omega)]
     unfold zFd
     rw [if_neg (by show ¬ listed.getD j false=true;rw [hlj];simp)]
     exact hy)
   unfold wpOp
   rw [ho]
   refine zGc hq λa' w' hn=>?_
   obtain ⟨vs',h'⟩:=h.step hg hu ho' hno hall' hn
   refine ih _ vs' a' w' ?_ h'
   have hcount:(listed.setIfInBounds i true).toList.count false+1=listed.toList.count false:=by
     rw [Array.toList_setIfInBounds]
     have hi2:i<listed.toList.length:=by simpa using hlt
     have h3:listed.toList[i]=false:=by simpa using h2
     exact zIK listed.toList i hi2 h3
   omega
def zOx (us:List Nat) (vs:Nat→Value):Nat→List OS→List HA
 | _,[]=>[]
 | i,D::Ds=>(if us.elem i then [] else D.N (D.m i vs))++zOx us vs (i+1) Ds
theorem zNB {us:List Nat} {vs:Nat→Value}:∀ (Ds:List OS) (i:Nat),zOx us vs i Ds=(List.range' i Ds.length).flatMap λk=>if us.elem k then [] else (zAa Ds (k-i)).N ((zAa Ds (k-i)).m k vs)
 | [],i=>by simp [zOx]
 | D::Ds,i=>by
  simp only [zOx,List.length_cons,List.range'_succ,List.flatMap_cons]
  congr 1
  ·simp [zAa]
  ·rw [zNB Ds (i+1),List.flatMap_def,List.flatMap_def]
   congr 1
   refine List.map_congr_left λk hk=>?_
   rw [List.mem_range'_1] at hk
   have:k-i=(k-(i+1))+1:=by omega
   simp [zAa,this]
inductive zGU : List HA→List HA→List HA→Prop
 | n {L}:zGU L [] L
 | c {L x L1 X L2}:Del L x L1→zGU L1 X L2→zGU L (x::X) L2
theorem Del.permL {L:List HA} {x:HA} {L':List HA} (h:Del L x L'):L.Perm (x::L'):=by
 induction h with
 | z=>exact List.Perm.refl _
 | @s u r x r' _ ih=>exact (List.Perm.cons u ih).trans (List.Perm.swap x u r')
theorem zGU.permL {L X L':List HA} (h:zGU L X L'):L.Perm (X++L'):=by
 induction h with
 | n=>exact List.Perm.refl _
 | c h _ ih=>exact h.permL.trans (List.Perm.cons _ ih)
inductive zWm (F1:List (Nat×Value)):List Oper→List OS→Prop
 | n:zWm F1 [] []
 | z {o r D ds}:D.was=none→zWm F1 r ds→zWm F1 (o::r) (D::ds)
 | s {o r D ds d u}:o.dst=some d→D.was=some u→lk F1 d=some u→zWm F1 r ds→zWm F1 (o::r) (D::ds)
theorem zWm.get {F1:List (Nat×Value)} {l:List Oper} {Ds:List OS} (h:zWm F1 l Ds) {M1:List HA} (hs:St n F1 w0 S M1 a w):∀ j,j<l.length→∀ u,(zAa Ds j).was=some u→zBz l j u a:=by
 induction h with
 | n=>intro j hj;simp at hj
 | @z o r D ds h1 _ ih =>
  intro j hj u hu
  cases j with
  | zero=>rw [show zAa (D::ds) 0=D from rfl,h1] at hu;cases hu
  | succ j =>
   intro o' d h3 h4
   exact ih j (by simpa using hj) u hu o' d (by simpa using h3) h4
 | @s o r D ds d u' h1 h2 h3 _ ih =>
  intro j hj u hu
  cases j with
  | zero =>
   rw [show zAa (D::ds) 0=D from rfl,h2] at hu
   injection hu with hu
   subst hu
   intro o' d' h4 h5
   have h4':o=o':=by simpa using h4
   subst h4'
   rw [h1] at h5
   injection h5 with h5
   subst h5
   exact hs.agr _ _ h3
  | succ j =>
   intro o' d' h4 h5
   exact ih j (by simpa using hj) u hu o' d' (by simpa using h4) h5
def zcK (P:Program) (Q:Exit→Act→World→Prop) (ops:Array Oper) (a:Act) (w:World):Prop:=wpAny P .any ops Q ops.size (Array.replicate ops.size false) a { w with drawn:=w.drawn+1 }
theorem zJK {Ds : List OS} {l : List Oper} {X : List HA} (hm : P.follows .mixedOrders = true) (hs : St n F w0 S M a w) (hX : Ds.flatMap (·.X) = X) (hd : zGU M X M0) (hg : zHQ F l = true) (hu : zHH l (Ds.map (·.use)) (Ds.map (·.dep)) = true) (hst : zHK P l n F w0 S M0 Ds 0 l Ds)
   (hwas:∀ j,j<l.length→∀ u,(zAa Ds j).was=some u→zBz l j u a)
   (hfin:∀ a w vs,St n F w0 S (M0++zOx (Ds.flatMap (·.use)) vs 0 Ds) a w→(∀ i,i<l.length→zBz l i (vs i) a∧(zAa Ds i).vp ((zAa Ds i).m i vs))→Q .normal a w):zcK P Q l.toArray a w:=by
 have hlen:l.length=Ds.length:=hst.get.1
 refine zPj (Ds:=Ds) hg hu hst ?_ _ _ (λ_=>undef) _ _ (by simp) ⟨?_,by simp,?_,?_,λj hj _ u hu=>hwas j hj u hu⟩
 · intro listed vs a w h hall
   have hst:=h.st
   refine hfin a w vs ?_ λi hi=>h.fact i hi (hall i hi)
   have e:(List.range l.length).flatMap (zFd Ds (λi=>listed.getD i false) vs)=zOx (Ds.flatMap (·.use)) vs 0 Ds:=by
     rw [zNB,← hlen,List.range_eq_range',List.flatMap_def,List.flatMap_def]
     congr 1
     refine List.map_congr_left λk hk=>?_
     rw [List.mem_range'_1] at hk
     unfold zFd
     rw [if_pos (hall k (by omega)),Nat.sub_zero]
     have ht:zH7 Ds (λi=>listed.getD i false) k↔(Ds.flatMap (·.use)).elem k=true:=by
       rw [List.elem_iff,List.mem_flatMap]
       constructor
       · rintro ⟨j,hj,hkj⟩
         unfold zAa at hkj
         rcases Nat.lt_or_ge j Ds.length with hj | hj
         · rw [List.getElem?_eq_getElem hj] at hkj;exact ⟨Ds[j],List.getElem_mem hj,hkj⟩
         · rw [List.getElem?_eq_none hj] at hkj;simp [OS.nil] at hkj
       · rintro ⟨D,hD,hkD⟩
         obtain ⟨j,hj,rfl⟩:=List.mem_iff_getElem.1 hD
         exact ⟨j,hall j (by omega),by unfold zAa;rw [List.getElem?_eq_getElem hj];exact hkD⟩
     by_cases h1:zH7 Ds (λi=>listed.getD i false) k
     · rw [if_pos h1,if_pos (ht.1 h1)]
     · rw [if_neg h1,if_neg (λh=>h1 (ht.2 h))]
   rw [← e]
   exact hst
 · have h1:=hs.frame (zC5.n (M:=M)) (zNT w (w.drawn+1))
   simp only [List.nil_append] at h1
   refine ⟨h1.size,h1.dfr,h1.agr,h1.mem.perm (hd.permL.trans (List.perm_append_comm.trans (List.Perm.append_left M0 ?_)))⟩
   have e:(List.range l.length).flatMap (zFd Ds (λi=>(Array.replicate l.toArray.size false).getD i false) λ_=>undef)=Ds.flatMap (·.X):=by
     have hc:(zFd Ds (λi=>(Array.replicate l.toArray.size false).getD i false) λ_=>undef)=λi=>(zAa Ds i).X:=by
       funext i
       unfold zFd
       rw [if_neg]
       simp [Array.getD_eq_getD_getElem?,Array.getElem?_replicate]
       split<;>simp
     rw [hc,hlen]
     clear hc hst hg hu hfin hX hlen hwas
     induction Ds with
     | nil=>rfl
     | cons D Ds ih =>
       rw [List.length_cons,List.range_succ_eq_map,List.flatMap_cons,List.flatMap_cons,List.flatMap_map]
       congr 1
   rw [e,hX]
 · intro i hi hl
   simp [Array.getD_eq_getD_getElem?,Array.getElem?_replicate] at hl
   split at hl<;>simp at hl
 · intro i hl
   simp [Array.getD_eq_getD_getElem?,Array.getElem?_replicate] at hl
   split at hl<;>simp at hl
theorem zSt {id:Nat} {Ds:List OS} {l:List Oper} {X:List HA} (hm:P.follows .mixedOrders=true) (hs:St n F w0 S M a w) (hX:Ds.flatMap (·.X)=X) (hd:zGU M X M0) (hg:zHQ F l=true) (hu:zHH l (Ds.map (·.use)) (Ds.map (·.dep))=true) (hst:zHK P l n F w0 S M0 Ds 0 l Ds)
 (hwas:∀ j,j<l.length→∀ u,(zAa Ds j).was=some u→zBz l j u a)
 (hfin:∀ a w vs,St n F w0 S (M0++zOx (Ds.flatMap (·.use)) vs 0 Ds) a w→(∀ i,i<l.length→zBz l i (vs i) a∧(zAa Ds i).vp ((zAa Ds i).m i vs))→Q .normal a w):(Code.region id l.toArray true).wp P Q a w:=wp_region_any hm (zJK hm hs hX hd hg hu hst hwas hfin)
theorem zII {Ds : List OS} {l : List Oper} {X : List HA} (hm : P.follows .mixedOrders = true) (hs : St n F w0 S M a w) (hX : Ds.flatMap (·.X) = X) (hd : zGU M X M0) (hg : zHQ F l = true) (hu : zHH l (Ds.map (·.use)) (Ds.map (·.dep)) = true) (hn : (Ds.all fun D => D.was.isNone) = true) (hst : zHK P l n F w0 S M0 Ds 0 l Ds)
   (hfin:∀ a w vs,St n F w0 S (M0++zOx (Ds.flatMap (·.use)) vs 0 Ds) a w→(∀ i,i<l.length→zBz l i (vs i) a∧(zAa Ds i).vp ((zAa Ds i).m i vs))→Q .normal a w):zcK P Q l.toArray a w :=
 zJK hm hs hX hd hg hu hst (λj hj u hu=>by
   exfalso
   rw [List.all_eq_true] at hn
   unfold zAa at hu
   rcases Nat.lt_or_ge j Ds.length with h | h
   · rw [List.getElem?_eq_getElem h] at hu
     have:=hn _ (List.getElem_mem h)
     rw [show (Ds[j]).was=some u from hu] at this
     cases this
   · rw [List.getElem?_eq_none h] at hu
     simp [OS.nil] at hu) hfin
theorem zN3 {id:Nat} {Ds:List OS} {l:List Oper} {X:List HA} (hm:P.follows .mixedOrders=true) (hs:St n F w0 S M a w) (hX:Ds.flatMap (·.X)=X) (hd:zGU M X M0) (hg:zHQ F l=true) (hu:zHH l (Ds.map (·.use)) (Ds.map (·.dep))=true) (hn:(Ds.all λD=>D.was.isNone)=true) (hst:zHK P l n F w0 S M0 Ds 0 l Ds)
 (hfin:∀ a w vs,St n F w0 S (M0++zOx (Ds.flatMap (·.use)) vs 0 Ds) a w→(∀ i,i<l.length→zBz l i (vs i) a∧(zAa Ds i).vp ((zAa Ds i).m i vs))→Q .normal a w):(Code.region id l.toArray true).wp P Q a w:=wp_region_any hm (zII hm hs hX hd hg hu hn hst hfin)
def zBj : Value→Nat
 | .pointer (some a)=>a.block
 | .slice (some a) _ _=>a.block
 | _=>0
theorem Mem.mid {A B C:List HA} (h:Mem w0 S (A++(B++C)) w):Mem w0 S B w:=by
 have h1:Mem w0 S (A++(C++B)) w:=h.perm (List.Perm.append_left A List.perm_append_comm)
 have h2:Mem w0 S ((A++C)++B) w:=by rw [List.append_assoc];exact h1
 exact h2.drop (zC5.app _ _)
theorem Mem.own {A B:List HA} (h:Mem w0 S (A++B) w) {y:HA} (hy:y∈B):y.p w:=h.all y (by simp [hy])
theorem St.bare {G:List (Nat×Value)} {SS:List Nat} {N:List HA} (h:St n G w SS N a w):St n G w [] [] a w:=⟨h.size,h.dfr,h.agr,Mem.nil w⟩
theorem zTR.val {l:List Oper} {Ds:List OS} {rest:List HA} {vs:Nat→Value} {i k:Nat} {d:Nat} (h:zTR l Ds rest vs i k a) (hd:(l[k]?).bind (·.dst)=some d):a.tmps[d]? = some (vs k):=by
 cases ho:l[k]? with
 | none=>rw [ho] at hd;cases hd
 | some o=>rw [ho] at hd;exact h.1 o d ho hd
theorem zBz.val {l:List Oper} {k:Nat} {d:Nat} {v:Value} (h:zBz l k v a) (hd:(l[k]?).bind (·.dst)=some d):a.tmps[d]? = some v:=by
 cases ho:l[k]? with
 | none=>rw [ho] at hd;cases hd
 | some o=>rw [ho] at hd;exact h o d ho hd
theorem St.reorder {M X:List HA} (hs:St n F w0 S M a w) (d:zGU M X []):St n F w0 S X a w:=hs.memTo (by
 have:=hs.mem.perm d.permL
 rwa [List.append_nil] at this)
open Go.RowKit Go.ChangeShapes Go.WideShapes
section
variable {H : Type} {enc : TypeId × Value → H} {P : Program} {W : World} {t e : TypeId} {a : Option Addr} {len cap : Nat} {d : DataW H} {p : List MemPlace}
theorem zZ5 {z:Int} (h:(Lit.int .u8 z).wf=true):∃ b:zQ,z=(b.toNat:Int):=by
 have hb:=bounds_u8 h
 refine ⟨BitVec.ofNat 8 z.toNat,?_⟩
 rw [BitVec.toNat_ofNat,Nat.mod_eq_of_lt (by omega)]
 omega
end
theorem zIk {z:Int} (h:(Lit.int .u8 z).wf=true):∃ b:BitVec 8,z=((b.toNat:Nat):Int):=zZ5 h
theorem zLz {z:Int} (h:(Lit.int .u16 z).wf=true):∃ b:BitVec 16,z=((b.toNat:Nat):Int):=by
 have hb:=bounds_u16 h
 exact ⟨BitVec.ofNat 16 z.toNat,by rw [BitVec.toNat_ofNat,Nat.mod_eq_of_lt (by omega)];omega⟩
theorem zLy {z:Int} (h:(Lit.int .u64 z).wf=true):∃ b:BitVec 64,z=((b.toNat:Nat):Int):=by
 have hb:=bounds_u64 h
 exact ⟨BitVec.ofNat 64 z.toNat,by rw [BitVec.toNat_ofNat,Nat.mod_eq_of_lt (by omega)];omega⟩
theorem zMD {z:Int} (h:(Lit.int .i64 z).wf=true) : -9223372036854775808≤z∧z≤9223372036854775807:=by
 have hb:=bounds_i64 h
 omega
inductive FK where
 | i (k:IntKind)
 | b
inductive zHN : Value→FK→Prop
 | i {k z}:(Lit.int k z).wf=true→zHN (.int k z) (.i k)
 | b {x}:zHN (.bool x) .b
inductive zFe : List Value→List FK→Prop
 | n:zFe [] []
 | c {v k vs ks}:zHN v k→zFe vs ks→zFe (v::vs) (k::ks)
theorem zFe.app {a b:List Value} {k l:List FK} (h:zFe a k) (h2:zFe b l):zFe (a++b) (k++l):=by
 induction h with
 | n=>exact h2
 | c h _ ih=>exact .c h ih
theorem zFe.length {a:List Value} {k:List FK} (h:zFe a k):a.length=k.length:=by
 induction h with
 | n=>rfl
 | c _ _ ih=>simp [ih]
section
variable (P : Program)
def zWi (K:TypeId→Option (List FK)):Nat→List Field→Option (List FK)
 | _,[]=>some []
 | off,f::r=>(K f.type).bind λk=>if f.offset=off∧P.cellsOf f.type=k.length then (zWi K (off+k.length) r).map λl=>k++l else none
def zIx (k:List FK):Nat→List FK
 | 0=>[]
 | n+1=>k++zIx k n
def flatK : Nat→TypeId→Option (List FK)
 | 0,_=>none
 | n+1,t=>match P.underlying t with
  | some (.int k)=>some [.i k]
  | some .bool=>some [.b]
  | some (.struct fs)=>(zWi P (flatK n) 0 fs.toList).bind λl=>if P.cellsOf t=l.length then some l else none
  | some (.array m e)=>(flatK n e).bind λk=>if P.cellsOf e=k.length∧P.cellsOf t=(zIx k m).length then some (zIx k m) else none
  | _=>none
end
section
variable {H : Type} {enc : TypeId × Value → H} {P : Program} {W : World} {t e : TypeId} {a : Option Addr} {len cap : Nat} {d : DataW H} {p : List MemPlace} {base : Nat} {spare : Nat → Bool} {held : Bool}
theorem zPv {α:Type} {f:Nat→List Value} {g:α→List Value}:∀ (n:Nat),(∀ i,i<n→∃ a:α,f i=g a)→∃ l:List α,l.length=n∧(List.range n).flatMap f=l.flatMap g
 | 0,_=>⟨[],rfl,rfl⟩
 | n+1,h=>by
  obtain ⟨l,hl,he⟩:=zPv n λi hi=>h i (by omega)
  obtain ⟨a,ha⟩:=h n (by omega)
  exact ⟨l++[a],by simp [hl],by rw [List.range_succ,List.flatMap_append,List.flatMap_append,he];simp [ha]⟩
end
variable {P : Program}
def vEq : Value→Value→Bool
 | .int _ a,.int _ b=>a==b
 | .bool a,.bool b=>a==b
 | _,_=>false
def zAK : List Value→List Value→Bool
 | x::xs,y::ys=>vEq x y && zAK xs ys
 | _,_=>true
theorem zFm : ∀ {a b c d:List Value},a.length=b.length→zAK (a++c) (b++d)=(zAK a b && zAK c d)
 | [],[],_,_,_=>by simp [zAK]
 | x::a,y::b,c,d,h=>by
  simp only [List.cons_append,zAK]
  rw [zFm (by simpa using h),Bool.and_assoc]
 | [],_::_,_,_,h=>by simp at h
 | _::_,[],_,_,h=>by simp at h
inductive KFK : List Value→List FK→Prop
 | n:KFK [] []
 | i {k z vs ks}:KFK vs ks→KFK (.int k z::vs) (.i k::ks)
 | b {x vs ks}:KFK vs ks→KFK (.bool x::vs) (.b::ks)
theorem KFK.length {vs:List Value} {ks:List FK} (h:KFK vs ks):vs.length=ks.length:=by
 induction h<;>simp_all
theorem KFK.split : ∀ {k:List FK} {l:List FK} {vs:List Value},KFK vs (k++l)→KFK (vs.take k.length) k∧KFK (vs.drop k.length) l
 | [],l,vs,h=>by simpa using ⟨KFK.n,h⟩
 | .i kd::k,l,vs,h=>by
  cases h with
  | i h=>obtain ⟨h1,h2⟩:=KFK.split h;exact ⟨.i h1,h2⟩
 | .b::k,l,vs,h=>by
  cases h with
  | b h=>obtain ⟨h1,h2⟩:=KFK.split h;exact ⟨.b h1,h2⟩
def zBN (P:Program) (t:TypeId):Bool:=match P.underlying t with
 | some (.struct _)=>true
 | some (.array _ _)=>true
 | _=>false
variable {P : Program}
def zFU (P:Program) (t:TypeId) (cs:List Value):Value:=if zBN P t then .agg cs.toArray else cs.headD undef
def zKq (P:Program) (K:TypeId→Option (List FK)):Nat→List Field→Option (List FK)
 | _,[]=>some []
 | off,f::r=>(K f.type).bind λk=>if f.offset=off∧f.name ≠ "_" ∧ (P.info? f.type).map (·.size)=some k.length∧(zBN P f.type=true∨k.length=1) then (zKq P K (off+k.length) r).map λl=>k++l else none
def zHS (P:Program):Nat→TypeId→Option (List FK)
 | 0,_=>none
 | n+1,t=>match P.underlying t with
  | some (.int k)=>some [.i k]
  | some .bool=>some [.b]
  | some (.struct fs)=>if P.stoodInHeld t=false then zKq P (zHS P n) 0 fs.toList else none
  | some (.array m e)=>(zHS P n e).bind λk=>if (P.info? e).map (·.size)=some k.length∧(zBN P e=true∨k.length=1) then some (zIx k m) else none
  | _=>none
theorem zF4 {t:TypeId} {ds:TypeDesc} (w:World) (h:P.underlying t=some ds):(isAgg t).run P w = .ok (zBN P t) w:=by
 unfold isAgg zBN
 simp only [Sem.run_bind,run_underlying h,Result.andThen_ok,h]
 cases ds<;>simp
variable {P : Program}
theorem zEo {t : TypeId} {cs : List Value} {off k : Nat} {ds : TypeDesc} (w : World) (hu : P.underlying t = some ds) (hsz : (P.info? t).map (·.size) = some k) (hk : zBN P t = true ∨ k = 1) (hlen : off + k ≤ cs.length) :
   (part t cs.toArray off).run P w = .ok (zFU P t ((cs.drop off).take k)) w:=by
 obtain ⟨i,hi,hik⟩:=Option.map_eq_some_iff.1 hsz
 unfold part zFU
 simp only [Sem.run_bind,zF4 w hu,Result.andThen_ok]
 cases hb:zBN P t with
 | true =>
   subst hik
   simp [sizeOf,typeInfo,hi,List.extract_toArray]
 | false =>
   rcases hk with hk | hk
   · rw [hb] at hk;cases hk
   · subst hk
     have h1:off<cs.length:=by omega
     simp [h1,List.headD_eq_head?_getD,List.head?_take,List.head?_drop]
theorem zL3 : ∀ (n:Nat) (t:TypeId) (ks:List FK),zHS P n t=some ks→∃ ds,P.underlying t=some ds:=by
 intro n t ks h
 cases n with
 | zero=>simp [zHS] at h
 | succ n =>
  simp only [zHS] at h
  cases hu:P.underlying t with
  | none=>rw [hu] at h;cases h
  | some ds=>exact ⟨ds,rfl⟩
variable {P : Program}
theorem zT9 {K : TypeId → Option (List FK)} {d : Nat} (hK : ∀ t ks, K t = some ks → (∃ ds, P.underlying t = some ds) ∧ ∀ xs ys, KFK xs ks → KFK ys ks → ∀ w, (Op.equalIn d t (zFU P t xs) (zFU P t ys)).run P w = .ok (zAK xs ys) w) :
   ∀ (fs:List Field) (off:Nat) (ks:List FK),zKq P K off fs=some ks→∀ (xs ys:List Value),xs.length=off+ks.length→ys.length=off+ks.length→KFK (xs.drop off) ks→KFK (ys.drop off) ks →
     ∀ w,(Op.eqFields d xs.toArray ys.toArray fs).run P w = .ok (zAK (xs.drop off) (ys.drop off)) w:=by
 intro fs
 induction fs with
 | nil =>
   intro off ks h xs ys hx hy _ _ w
   simp only [zKq,Option.some.injEq] at h
   subst h
   simp only [List.length_nil,Nat.add_zero] at hx hy
   rw [List.drop_of_length_le (by omega),List.drop_of_length_le (by omega)]
   simp [Op.eqFields,zAK]
 | cons f r ih =>
   intro off ks h xs ys hx hy kx ky w
   simp only [zKq,Option.bind_eq_some_iff] at h
   obtain ⟨k,hk,h⟩:=h
   split at h
   · rename_i hc
     obtain ⟨hoff,hnm,hsz,hag⟩:=hc
     simp only [Option.map_eq_some_iff] at h
     obtain ⟨l,hl,rfl⟩:=h
     simp only [List.length_append] at hx hy
     obtain ⟨⟨ds,hu⟩,hKq⟩:=hK _ _ hk
     obtain ⟨kx1,kx2⟩:=kx.split
     obtain ⟨ky1,ky2⟩:=ky.split
     rw [List.drop_drop] at kx2 ky2
     have hr:=ih (off+k.length) l hl xs ys (by omega) (by omega) kx2 ky2 w
     have hcell:zAK (xs.drop off) (ys.drop off)=(zAK ((xs.drop off).take k.length) ((ys.drop off).take k.length) && zAK (xs.drop (off+k.length)) (ys.drop (off+k.length))):=by
       rw [← zFm (by simp;omega),← List.drop_drop,← List.drop_drop,List.take_append_drop,List.take_append_drop]
     simp only [Op.eqFields]
     rw [if_pos hnm]
     simp only [Sem.run_bind,hoff,zEo w hu hsz hag (by omega:off+k.length≤xs.length),zEo w hu hsz hag (by omega:off+k.length≤ys.length),Result.andThen_ok,hKq _ _ kx1 ky1 w]
     rw [hcell]
     cases he:zAK ((xs.drop off).take k.length) ((ys.drop off).take k.length) with
     | false=>simp
     | true=>simpa using hr
   · cases h
def zMg (P:Program) (d:Nat) (e:TypeId) (sz:Nat) (xs ys:Array Value) (i:Nat):Sem (ForInStep (Option Bool×Unit)):=do
 let a ← part e xs (i*sz)
 let b ← part e ys (i*sz)
 let c ← Op.equalIn d e a b
 if (!c)=true then pure (ForInStep.done (some false,())) else pure (ForInStep.yield (none,()))
theorem zRA {e : TypeId} {k : List FK} {d : Nat} (hu : ∃ ds, P.underlying e = some ds) (hsz : (P.info? e).map (·.size) = some k.length) (hag : zBN P e = true ∨ k.length = 1)
   (hK:∀ xs ys,KFK xs k→KFK ys k→∀ w,(Op.equalIn d e (zFU P e xs) (zFU P e ys)).run P w = .ok (zAK xs ys) w) (xs ys:List Value) :
   ∀ (m i:Nat),xs.length=i*k.length+(zIx k m).length→ys.length=i*k.length+(zIx k m).length→KFK (xs.drop (i*k.length)) (zIx k m)→KFK (ys.drop (i*k.length)) (zIx k m)→∀ w,
     (forIn (List.range' i m) ((none,()):Option Bool×Unit) (λj _=>zMg P d e k.length xs.toArray ys.toArray j)).run P w
       = .ok (if zAK (xs.drop (i*k.length)) (ys.drop (i*k.length)) then (none,()) else (some false,())) w:=by
 intro m
 induction m with
 | zero =>
   intro i hx hy _ _ w
   simp only [zIx,List.length_nil,Nat.add_zero] at hx hy
   rw [List.drop_of_length_le (by omega),List.drop_of_length_le (by omega)]
   simp [zAK]
 | succ m ih =>
   intro i hx hy kx ky w
   obtain ⟨ds,hu'⟩:=hu
   simp only [zIx] at hx hy kx ky
   simp only [List.length_append] at hx hy
   obtain ⟨kx1,kx2⟩:=kx.split
   obtain ⟨ky1,ky2⟩:=ky.split
   rw [List.drop_drop,show i*k.length+k.length=(i+1)*k.length by rw [Nat.add_mul];omega] at kx2 ky2
   have hr:=ih (i+1) (by rw [hx,Nat.add_mul];omega) (by rw [hy,Nat.add_mul];omega) kx2 ky2 w
   have hcell:zAK (xs.drop (i*k.length)) (ys.drop (i*k.length))=(zAK ((xs.drop (i*k.length)).take k.length) ((ys.drop (i*k.length)).take k.length) && zAK (xs.drop ((i+1)*k.length)) (ys.drop ((i+1)*k.length))):=by
     rw [← zFm (by simp;omega),show (i+1)*k.length=i*k.length+k.length by rw [Nat.add_mul];omega,← List.drop_drop,← List.drop_drop,List.take_append_drop,List.take_append_drop]
   have hround:(zMg P d e k.length xs.toArray ys.toArray i).run P w = .ok (if zAK ((xs.drop (i*k.length)).take k.length) ((ys.drop (i*k.length)).take k.length) then ForInStep.yield (none,()) else ForInStep.done (some false,())) w:=by
     unfold zMg
     simp only [Sem.run_bind,zEo w hu' hsz hag (by omega:i*k.length+k.length≤xs.length),zEo w hu' hsz hag (by omega:i*k.length+k.length≤ys.length),Result.andThen_ok,hK _ _ kx1 ky1 w]
     cases zAK ((xs.drop (i*k.length)).take k.length) ((ys.drop (i*k.length)).take k.length)<;>simp
   rw [List.range'_succ,List.forIn_cons]
   simp only [Sem.run_bind,hround,Result.andThen_ok]
   rw [hcell]
   cases zAK ((xs.drop (i*k.length)).take k.length) ((ys.drop (i*k.length)).take k.length) with
   | false=>simp
   | true=>simpa using hr
theorem zMW : ∀ (n:Nat) (t:TypeId) (ks:List FK),zHS P n t=some ks→∀ (xs ys:List Value),KFK xs ks→KFK ys ks→∀ (d:Nat) (w:World),n≤d→(Op.equalIn d t (zFU P t xs) (zFU P t ys)).run P w = .ok (zAK xs ys) w:=by
 intro n
 induction n with
 | zero=>intro t ks h;simp [zHS] at h
 | succ n ih =>
  intro t ks h xs ys kx ky d w hd
  obtain ⟨d,rfl⟩ : ∃ d',d=d'+1:=⟨d-1,by omega⟩
  simp only [zHS] at h
  split at h
  ·rename_i k hu
   simp only [Option.some.injEq] at h
   subst h
   have hb:zBN P t=false:=by simp [zBN,hu]
   cases kx with
   | i kx =>
    cases kx
    cases ky with
    | i ky =>
     cases ky
     simp [zFU,hb,zAK,vEq,Op.equalIn,run_underlying hu]
  ·rename_i hu
   simp only [Option.some.injEq] at h
   subst h
   have hb:zBN P t=false:=by simp [zBN,hu]
   cases kx with
   | b kx =>
    cases kx
    cases ky with
    | b ky =>
     cases ky
     simp [zFU,hb,zAK,vEq,Op.equalIn,run_underlying hu]
  ·rename_i fs hu
   split at h
   ·rename_i hst
    have hb:zBN P t=true:=by simp [zBN,hu]
    have hf:P.fieldsOf t=fs:=by simp [Program.fieldsOf,hu]
    have hlx:=kx.length
    have hly:=ky.length
    have:=zT9 (K:=zHS P n) (d:=d) (λt ks hk=>⟨zL3 n t ks hk,λxs ys hx hy w=>ih t ks hk xs ys hx hy d w (by omega)⟩) fs.toList 0 ks h xs ys (by omega) (by omega) (by simpa using kx) (by simpa using ky) w
    simp only [zFU,hb,if_true]
    rw [run_equalIn_struct w d t _ _ (by rw [hf];exact hu) hst,hf]
    simpa using this
   ·cases h
  ·rename_i m e hu
   simp only [Option.bind_eq_some_iff] at h
   obtain ⟨k,hk,h⟩:=h
   split at h
   ·rename_i hc
    simp only [Option.some.injEq] at h
    subst h
    have hb:zBN P t=true:=by simp [zBN,hu]
    have hlx:=kx.length
    have hly:=ky.length
    have hs:∀ w,(sizeOf e).run P w = .ok k.length w:=λw=>by
     obtain ⟨i,hi,hik⟩:=Option.map_eq_some_iff.1 hc.1
     simp [sizeOf,typeInfo,hi,hik]
    have hr:=zRA (d:=d) (zL3 n e k hk) hc.1 hc.2 (λxs ys hx hy w=>ih e k hk xs ys hx hy d w (by omega)) xs ys m 0 (by omega) (by omega) (by simpa using kx) (by simpa using ky) w
    simp only [zFU,hb,if_true]
    rw [Op.equalIn]
    simp only [Sem.run_bind,run_underlying hu,hs,Result.andThen_ok]
    simp only [Std.Legacy.Range.forIn_eq_forIn_range']
    rw [show ([:m]:Std.Legacy.Range).size=m by simp [Std.Legacy.Range.size]]
    simp only [Nat.zero_mul,List.drop_zero] at hr
    refine Eq.trans (congrArg (λr=>Result.andThen r _) hr) ?_
    cases zAK xs ys<;>simp
   ·cases h
  ·cases h
variable {P : Program} {ops : Array Oper} {Q : Exit → Act → World → Prop} {rest : List Oper} {n : Nat} {F : List (Nat × Value)} {w0 : World} {S : List Nat} {M : List HA} {a : Act} {w : World}
variable {d : Nat} {ty : TypeId} {pos : String} {af : Array Edge}
theorem zbJ {x y : Operand} {t t2 : TypeId} {xs ys : List Value} {ks : List FK} (q : Nat) (hs : St n F w0 S M a w) (hx : evo F x = some (.agg xs.toArray)) (hy : evo F y = some (.agg ys.toArray))
   (hg:P.eqGuardType P.depth t=false) (hq:zHS P q t=some ks) (hb:zBN P t=true) (hn:q≤10000) (kx:KFK xs ks) (ky:KFK ys ks) (hd:Nat.blt d n=true)
   (k:∀ a w,St n ((d,.bool (zAK xs ys))::F) w0 S M a w→wpList P ops Q rest a w):wpList P ops Q (⟨some d,.binOp .eql t x y t2,ty,pos,af,none⟩::rest) a w:=by
 have h:=zMW q t ks hq xs ys kx ky 10000 w hn
 simp only [zFU,hb,if_true] at h
 exact zM hs (by simp [execOp,hs.ev hx,hs.ev hy,run_eqGuard_agg w .eql t x y _ _ hg,run_eql_struct,h]) hd k
theorem zYe {x y : Operand} {t t2 : TypeId} {xs ys : List Value} {ks : List FK} (q : Nat) (hs : St n F w0 S M a w) (hx : evo F x = some (.agg xs.toArray)) (hy : evo F y = some (.agg ys.toArray))
   (hg:P.eqGuardType P.depth t=false) (hq:zHS P q t=some ks) (hb:zBN P t=true) (hn:q≤10000) (kx:KFK xs ks) (ky:KFK ys ks) (hd:Nat.blt d n=true)
   (k:∀ a w,St n ((d,.bool (!(zAK xs ys)))::F) w0 S M a w→wpList P ops Q rest a w):wpList P ops Q (⟨some d,.binOp .neq t x y t2,ty,pos,af,none⟩::rest) a w:=by
 have h:=zMW q t ks hq xs ys kx ky 10000 w hn
 simp only [zFU,hb,if_true] at h
 exact zM hs (by simp [execOp,hs.ev hx,hs.ev hy,run_eqGuard_agg w .neq t x y _ _ hg,run_neq_struct,h]) hd k
variable {P : Program} {Q : Exit → Act → World → Prop} {a : Act} {w : World}
theorem zaQ {c:Code} (I:Act→World→Prop) (h:c.wp P (Exit.then I Q) a w) (h2:∀ a w,I a w→Q .normal a w):c.wp P Q a w :=
 wp_mono h (λe a w he=>by cases e<;>first | exact h2 _ _ he | exact he)
variable {ops : Array Oper} {rest : List Oper} {n : Nat} {F : List (Nat × Value)} {w0 : World} {S : List Nat} {M : List HA} {d : Nat} {ty : TypeId} {pos : String} {af : Array Edge}
theorem zEU {x : Operand} {v : Value} {t : TypeId} {j f o m size : Nat} {T : List Nat} {xs : List Value} {fs : Array Field} {fd : Field} {sz : Nat} (hs : St n F w0 S M a w) (hx : evo F x = some (.pointer (some (adr v j)))) (hr : Rd w T v size m xs) (hm : 0 < m) (ht : P.underlying t = some (.struct fs)) (hf : fs[f]? = some fd)
   (hsz:∀ w,(sizeOf fd.type).run P w = .ok sz w) (h0:sz≠0) (ho:j+fd.offset=o) (hd:Nat.blt d n=true)
   (k:∀ a w,St n ((d,.pointer (some (adr v o)))::F) w0 S M a w→wpList P ops Q rest a w):wpList P ops Q (⟨some d,.fieldAddr t x f,ty,pos,af,none⟩::rest) a w:=by
 subst ho
 have ha:(adr v j).add fd.offset=adr v (j+fd.offset):=by rw [zPt hr hm]
 exact zM hs (by simp [execOp,Instr.fieldAt,Instr.sureAddr,hs.ev hx,run_underlying ht,hf,fieldPlace,hsz,h0,ha]) hd k
theorem zFH {x : Operand} {f : FuncId} {xs : List Operand} {ats : Array TypeId} {fs vs us all : List Value} {post : Value → List HA → Prop} {X M' : List HA} (hs : St n F w0 S M a w) (hx : evo F x = some (.func (.func f) fs.toArray us.toArray)) (hv : Evs F xs vs) (hall : fs ++ vs ++ us = all) (hcall : ∀ args w, (callFunc f args).run P w = .ok (.enter f args) w)
   (hX:zC5 M X M') (hc:Calls P f all.toArray w (Ret w (zN X) post)) (hd:Nat.blt d n=true)
   (k:∀ v N a w,post v N→zGg (N++M') λM2=>St n ((d,v)::F) w0 S M2 a w→wpList P ops Q rest a w) :
   wpList P ops Q (⟨some d,.call { callee:=.value x,args:=xs.toArray,argTypes:=ats },ty,pos,af,none⟩::rest) a w:=by
 subst hall
 refine zHg rfl (zIU (fs:=fs) (cs:=us) hs hx hv hcall) hc ?_
 intro v N w' hp hm
 exact zBX.1 (k v N _ _ hp) ((hs.frame hX hm).put hd v)
theorem zSH {w:World} {h h2 h3:HA} (hp:h.p w) (hp2:h2.p w) (hp3:h3.p w) (hnd:(zN [h,h2,h3]).Nodup):Mem w (zN [h,h2,h3]) [h,h2,h3] w :=
 Mem.start (by simpa using ⟨hp,hp2,hp3⟩) rfl hnd
theorem zOW {v:Value} {e size m:Nat} {xs:List Value}:(row v e size m xs).foot.Nodup:=by
 show v.ownBlock.toList.Nodup
 cases v.ownBlock<;>simp
theorem zDM {w:World} {v:Value} {e size m g:Nat} {t:TypeId} {xs cs:List Value} (h:(row v e size m xs).p w) (h2:(blk g cs t).p w) (hne:e≠t):g ∉ zN [row v e size m xs]:=by
 intro hg
 have hg':g∈v.ownBlock.toList:=by simpa [zN,row] using hg
 rcases h.2 with ⟨rfl,_⟩ | ⟨g',cap,cur,rfl,_,hb,_⟩
 ·simp [Value.ownBlock] at hg'
 ·have:g=g':=by simpa [Value.ownBlock] using hg'
  subst this
  have h3:w.heap[g]? = some (.cells cs.toArray t (0,0)):=h2
  rw [hb] at h3
  injection h3 with h3
  injection h3 with _ h3 _
  exact hne h3
theorem zFx {w:World} {g g':Nat} {t t':TypeId} {cs cs':List Value} (h:(blk g cs t).p w) (h2:(blk g' cs' t').p w) (hne:t≠t'):g≠g':=by
 intro e
 subst e
 have h1:w.heap[g]? = some (.cells cs.toArray t (0,0)):=h
 have h3:w.heap[g]? = some (.cells cs'.toArray t' (0,0)):=h2
 rw [h1] at h3
 injection h3 with h3
 injection h3 with _ h3 _
 exact hne h3
theorem zEM {w:World} {h h2:HA} (hp:h.p w) (hp2:h2.p w) (hnd:(zN [h,h2]).Nodup):Mem w (zN [h,h2]) [h,h2] w :=
 Mem.start (by simpa using ⟨hp,hp2⟩) rfl hnd
theorem St.recell {v v':Value} (hs:St n ((d,v)::F) w0 S M a w) (e:v=v'):St n ((d,v')::F) w0 S M a w:=e ▸ hs
theorem St.reslot {v v':Value} (hs:St n F w0 S M a w) (h:lk F d=some v) (e:v=v'):St n ((d,v')::F) w0 S M a w:=by
 subst e
 refine ⟨hs.size,hs.dfr,λt u hu=>?_,hs.mem⟩
 rw [zBT] at hu
 by_cases e:d=t
 · subst e;rw [if_pos rfl] at hu;rw [← hu];exact hs.agr _ _ h
 · rw [if_neg e] at hu;exact hs.agr _ _ hu
theorem St.reblk {g:Nat} {cs cs':List Value} {t:TypeId} {M':List HA} (hs:St n F w0 S M a w) (hb:Del M (blk g cs t) M') (e:cs=cs'):St n F w0 S (blk g cs' t::M') a w:=by
 subst e
 exact hs.frame (N:=[blk g cs t]) (.c hb .n) ⟨Chg.refl _ _,by intro h hh;simp only [List.mem_singleton] at hh;subst hh;exact hs.mem.del hb,by simp [zN,blk],by simp [zN,blk]⟩
theorem zBM {fn : Func} {post : Value → List HA → Prop} {t t2 : Nat} {rt bt : TypeId} {g i sz : Nat} {cs vs : List Value} {v2 : Value} {M' : List HA} (hs : St n F w0 S M a w) (hr : fn.results = #[.cell t rt, .tmp t2]) (hv : lk F t = some (.pointer (some ⟨g, i, none⟩))) (hv2 : lk F t2 = some v2) (hb : Del M (blk g cs bt) M') (hc : Cut cs i sz vs)
   (hag:∀ w,(isAgg rt).run P w = .ok true w) (hsz:∀ w,(sizeOf rt).run P w = .ok sz w) {X N:List HA} (hD:zC5 M X N) (hp:post (.tuple #[.agg vs.toArray,v2]) N):bodyPost P fn (Ret w0 S post) .ret a w:=by
 have hg:=hs.agr t _ hv
 have hg2:=hs.agr t2 _ hv2
 have he:=hc.eq
 have hcl:vs.length=sz:=by rw [he.1];simp;omega
 have hrun:=run_loadCells_list (P:=P) w ⟨g,i,none⟩ vs (λj u hj=>by
   have ha:(⟨g,i,none⟩ : Addr).add j=⟨g,i+j,none⟩:=by unfold Addr.add;split<;>simp_all
   rw [ha,zBL (hs.mem.del hb)]
   rw [he.1,List.getElem?_take] at hj
   split at hj
   · simpa using hj
   · cases hj)
 rw [hcl] at hrun
 refine bodyPost_ret (v:=.tuple #[.agg vs.toArray,v2]) ?_ hs.dfr ⟨_,N,rfl,hp,hs.mem.drop hD⟩
 simp [results,hr,Array.getD_eq_getD_getElem?,hg,hg2,asAddr,loadVar,hag,hsz,hrun]
section
open Go.ChangeShapes Go.WideShapes
variable {H : Type} {enc : TypeId × Value → H} {W : World} {t : TypeId} {v : Value} {dd : DataW H} {p : List MemPlace}
theorem zFe.split {c:List Value} {k:FK} {ks:List FK} (h:zFe c (k::ks)):∃ u us,c=u::us∧zHN u k∧zFe us ks:=by
 cases h with
 | c h1 h2=>exact ⟨_,_,rfl,h1,h2⟩
theorem zFe.none {c:List Value} (h:zFe c []):c=[]:=by cases h;rfl
theorem zHN.i64 {v:Value} (h:zHN v (.i .i64)):∃ z:Int,v = .int .i64 z ∧ -9223372036854775808≤z∧z≤9223372036854775807:=by
 cases h with
 | i w=>exact ⟨_,rfl,zMD w⟩
theorem zHN.u64 {v:Value} (h:zHN v (.i .u64)):∃ z:BitVec 64,v = .int .u64 ((z.toNat:Nat):Int):=by
 cases h with
 | i w=>obtain ⟨X,hX⟩:=zLy w;exact ⟨X,by rw [hX]⟩
theorem zHN.u16 {v:Value} (h:zHN v (.i .u16)):∃ z:BitVec 16,v = .int .u16 ((z.toNat:Nat):Int):=by
 cases h with
 | i w=>obtain ⟨X,hX⟩:=zLz w;exact ⟨X,by rw [hX]⟩
theorem zHN.u8 {v:Value} (h:zHN v (.i .u8)):∃ z:BitVec 8,v = .int .u8 ((z.toNat:Nat):Int):=by
 cases h with
 | i w=>obtain ⟨X,hX⟩:=zIk w;exact ⟨X,by rw [hX]⟩
end
variable {P : Program} {ops : Array Oper} {Q : Exit → Act → World → Prop} {rest : List Oper} {n : Nat} {F : List (Nat × Value)} {w0 : World} {S : List Nat} {M : List HA} {a : Act} {w : World}
def zHU (P:Program) (t:TypeId):Option Nat:=(P.info? t).map (·.size)
theorem zCz {t:TypeId} {k:Nat} (w:World) (h:zHU P t=some k):(sizeOf t).run P w = .ok k w:=by
 obtain ⟨i,hi,hik⟩:=Option.map_eq_some_iff.1 h
 subst hik
 simp [sizeOf,typeInfo,hi]
inductive BBs (w:World):List (Nat×List Value)→Prop
 | n:BBs w []
 | c {g cs t r}:(blk g cs t).p w→BBs w r→BBs w ((g,cs)::r)
theorem BBs.head {Bs:List (Nat×List Value)} (h:BBs w Bs) {g:Nat} {cs:List Value} (hb:Bs.head? = some (g,cs)):∃ t,(blk g cs t).p w:=by
 cases h with
 | n=>cases hb
 | c h1 _=>simp only [List.head?_cons,Option.some.injEq,Prod.mk.injEq] at hb;obtain ⟨rfl,rfl⟩:=hb;exact ⟨_,h1⟩
theorem BBs.tail {Bs:List (Nat×List Value)} (h:BBs w Bs):BBs w Bs.tail:=by
 cases h with
 | n=>exact .n
 | c _ h2=>exact h2
def zTU (P:Program) (t:TypeId) (cs:List Value) (off:Nat):Option Value :=
 match P.underlying t,zHU P t with
 | some _,some k=>bif zBN P t then (bif Nat.ble (off+k) cs.length then some (.agg ((cs.drop off).take k).toArray) else none) else cs[off]?
 | _,_=>none
theorem zKg {t:TypeId} {cs:List Value} {off:Nat} {v:Value} (w:World) (h:zTU P t cs off=some v):(part t cs.toArray off).run P w = .ok v w:=by
 unfold zTU at h
 split at h
 case h_2=>cases h
 rename_i ds k hu hsz
 cases hb:zBN P t with
 | true =>
  rw [hb] at h
  simp only [cond_true] at h
  cases hl:Nat.ble (off+k) cs.length with
  | false=>rw [hl] at h;cases h
  | true =>
   rw [hl] at h
   simp only [cond_true] at h
   injection h with h
   subst h
   rw [zEo w hu hsz (.inl hb) (Nat.le_of_ble_eq_true hl),zFU,if_pos hb]
 | false =>
  rw [hb] at h
  simp only [cond_false] at h
  unfold part
  simp [zF4 w hu,hb,h]
theorem zIZ {t:TypeId} {cs:List Value} {off g:Nat} {t2:TypeId} {v:Value} (w:World) (hb:(blk g cs t2).p w) (h:zTU P t cs off=some v):(loadVar t ⟨g,off,none⟩).run P w = .ok v w:=by
 unfold zTU at h
 split at h
 case h_2=>cases h
 rename_i ds k hu hsz
 cases hag:zBN P t with
 | true =>
  rw [hag] at h
  simp only [cond_true] at h
  cases hl:Nat.ble (off+k) cs.length with
  | false=>rw [hl] at h;cases h
  | true =>
   rw [hl] at h
   simp only [cond_true] at h
   injection h with h
   subst h
   have hle:=Nat.le_of_ble_eq_true hl
   have hcl:((cs.drop off).take k).length=k:=by simp;omega
   have hrun:=run_loadCells_list (P:=P) w ⟨g,off,none⟩ ((cs.drop off).take k) (λj u hj=>by
    have ha:(⟨g,off,none⟩ : Addr).add j=⟨g,off+j,none⟩:=by unfold Addr.add;split<;>simp_all
    rw [ha,zBL hb]
    rw [List.getElem?_take] at hj
    split at hj
    ·simpa using hj
    ·cases hj)
   rw [hcl] at hrun
   simp [loadVar,zF4 w hu,hag,zCz w hsz,hrun]
 | false =>
  rw [hag] at h
  simp only [cond_false] at h
  have hc:=(zBL (i:=off) hb).trans h
  simp [loadVar,zF4 w hu,hag,run_load,hc]
def za0 (P:Program) (F:List (Nat×Value)) (B:Option (Nat×List Value)):Op→Option Value
 | .move x=>evo F x
 | .assign x=>evo F x
 | .extract x i=>match evo F x with
   | some (.tuple vs)=>vs.toList[i]?
   | _=>none
 | .nilCheck x=>match evo F x with
   | some (.pointer (some ad))=>some (.pointer (some ad))
   | some (.func (.func f) fs cs)=>some (.func (.func f) fs cs)
   | _=>none
 | .fieldAddr t x f=>match evo F x with
   | some (.pointer (some ⟨g,i,none⟩))=>match P.underlying t with
     | some (.struct fs)=>match fs.toList[f]? with
       | some fd=>match zHU P fd.type with
         | some (_+1)=>some (.pointer (some ⟨g,i+fd.offset,none⟩))
         | _=>none
       | none=>none
     | _=>none
   | _=>none
 | .indexAddr t x i=>match evo F x,evo F i with
   | some (.pointer (some ⟨g,o,none⟩)),some (.int _ (.ofNat q))=>match P.underlying t with
     | some (.array len e)=>match zHU P e with
       | some size=>bif Nat.blt q len then some (.pointer (some ⟨g,o+q*size,none⟩)) else none
       | none=>none
     | _=>none
   | _,_=>none
 | .field t x f=>match evo F x with
   | some (.agg vs)=>match P.underlying t with
     | some (.struct fs)=>match fs.toList[f]? with
       | some fd=>zTU P fd.type vs.toList fd.offset
       | none=>none
     | _=>none
   | _=>none
 | .index t x i=>match evo F x,evo F i with
   | some (.agg vs),some (.int _ (.ofNat q))=>match P.underlying t with
     | some (.array len e)=>match zHU P e with
       | some size=>bif Nat.blt q len then zTU P e vs.toList (q*size) else none
       | none=>none
     | _=>none
   | _,_=>none
 | .load t x=>match evo F x with
   | some (.pointer (some ⟨_,i,none⟩))=>match B with
     | some (_,cs)=>zTU P t cs i
     | none=>none
   | _=>none
 | .pick c x y=>match evo F c with
   | some (.bool true)=>evo F x
   | some (.bool false)=>evo F y
   | _=>none
 | .unOp .not _ x=>match evo F x with
   | some (.bool b)=>some (.bool (!b))
   | _=>none
 | .binOp op _ x y _=>match evo F x,evo F y with
   | some (.int k p), some (.int k2 q) => if k = k2 then
       match op with
       | .lss=>some (.bool (decide (p<q)))
       | .leq=>some (.bool (decide (p≤q)))
       | .gtr=>some (.bool (decide (q<p)))
       | .geq=>some (.bool (decide (q≤p)))
       | .eql=>some (.bool (p==q))
       | .neq=>some (.bool (!(p==q)))
       | .add=>some (.int k (k.wrap (p+q)))
       | .sub=>some (.int k (k.wrap (p-q)))
       | _=>none
     else none
   | _,_=>none
 | _=>none
def eq1 (F:List (Nat×Value)) (B:Option (Nat×List Value)):Op→List (Nat×Nat)
 | .load _ x=>match evo F x,B with
  | some (.pointer (some ⟨g,_,none⟩)),some (g',_)=>[(g,g')]
  | _,_=>[]
 | _=>[]
theorem zGf {α:Type} {xs:Array α} {i:Nat} {v:α} (h:xs.toList[i]? = some v):xs[i]? = some v:=by simpa using h
theorem zH5 {op:Op} {v:Value} {B:Option (Nat×List Value)} {d:Nat} {ty:TypeId} {pos:String} {af:Array Edge} (h:za0 P F B op=some v) (hs:St n F w0 S M a w) (hB:∀ {g cs},B=some (g,cs)→∃ t,(blk g cs t).p w) (he:∀ p∈eq1 F B op,p.1=p.2):(execOp a.eval ⟨some d,op,ty,pos,af,none⟩).run P w = .ok (.value v) w:=by
 unfold za0 at h
 split at h
 ·simp [execOp,hs.ev h]
 ·simp [execOp,hs.ev h]
 ·split at h
  ·rename_i hx
   have hg:=zGf h
   simp [execOp,Instr.extract,hs.ev hx,hg]
  ·cases h
 ·split at h
  ·rename_i hx;injection h with h;subst h;simp [execOp,hs.ev hx]
  ·rename_i hx;injection h with h;subst h;simp [execOp,hs.ev hx]
  ·cases h
 ·split at h
  ·rename_i g i hx
   split at h
   ·rename_i ht
    split at h
    ·rename_i fd hf
     have hf':=zGf hf
     split at h
     ·rename_i hsz
      injection h with h
      subst h
      have ha:(⟨g,i,none⟩ : Addr).add fd.offset=⟨g,i+fd.offset,none⟩:=by unfold Addr.add;split<;>simp_all
      simp [execOp,Instr.fieldAt,Instr.sureAddr,hs.ev hx,run_underlying ht,hf',fieldPlace,zCz _ hsz,ha]
     ·cases h
    ·cases h
   ·cases h
  ·cases h
 ·split at h
  ·rename_i g o _ q hx hi
   split at h
   ·rename_i ht
    split at h
    ·rename_i size hsz
     cases hb:Nat.blt q _ with
     | false=>rw [hb] at h;cases h
     | true =>
      rw [hb] at h
      injection h with h
      subst h
      have hb':0≤(Int.ofNat q)∧(Int.ofNat q)<((_:Nat):Int):=⟨Int.natCast_nonneg q,Int.ofNat_lt.2 (by simpa using hb)⟩
      have ha:(⟨g,o,none⟩ : Addr).add (q*size)=⟨g,o+q*size,none⟩:=by unfold Addr.add;split<;>simp_all
      have hq:(Int.ofNat q).toNat=q:=rfl
      simp only [execOp,Instr.indexAt,Instr.sureAddr,asIntOf,hs.ev hx,hs.ev hi]
      have hb2:=hb
      simp only [Nat.blt_eq] at hb2
      simp [run_underlying ht,zCz _ hsz,ha]
      intro hle
      omega
    ·cases h
   ·cases h
  ·cases h
 ·split at h
  ·rename_i vs hx
   split at h
   ·rename_i ht
    split at h
    ·rename_i fd hf
     have hf':=zGf hf
     have hp:=zKg (P:=P) w h
     simp only [Array.toArray_toList] at hp
     simp [execOp,Instr.field,hs.ev hx,run_underlying ht,hf',asAgg,hp]
    ·cases h
   ·cases h
  ·cases h
 ·split at h
  ·rename_i vs _ q hx hi
   split at h
   ·rename_i ht
    split at h
    ·rename_i size hsz
     cases hb:Nat.blt q _ with
     | false=>rw [hb] at h;cases h
     | true =>
      rw [hb] at h
      simp only [cond_true] at h
      have hp:=zKg (P:=P) w h
      simp only [Array.toArray_toList] at hp
      have hb2:=hb
      simp only [Nat.blt_eq] at hb2
      simp only [execOp,Instr.index,asIntOf,hs.ev hx,hs.ev hi]
      simp [run_underlying ht,zCz _ hsz,hp,hb2]
    ·cases h
   ·cases h
  ·cases h
 ·split at h
  ·rename_i g i hx
   split at h
   ·rename_i g' cs
    obtain ⟨t2,hbl⟩:=hB rfl
    have hg:g=g':=he (g,g') (by simp [eq1,hx])
    subst hg
    have hp:=zIZ (P:=P) w hbl h
    simp [execOp,Instr.loadAt,Instr.sureAddr,hs.ev hx,hp]
   ·cases h
  ·cases h
 ·split at h
  ·rename_i hc;simp [execOp,hs.ev hc,hs.ev h,asBool]
  ·rename_i hc;simp [execOp,hs.ev hc,hs.ev h,asBool]
  ·cases h
 ·split at h
  ·rename_i hx;injection h with h;subst h;simp [execOp,hs.ev hx,Op.unary]
  ·cases h
 ·split at h
  ·rename_i hx hy
   split at h
   ·rename_i hk
    subst hk
    split at h
    all_goals first
     | (injection h with h;subst h;simp [execOp,hs.ev hx,hs.ev hy,binOp,eqGuard,Op.intArith,Op.intCmp];done)
     | (injection h with h;subst h;simp [execOp,hs.ev hx,hs.ev hy,binOp,eqGuard,Op.intArith,Op.intCmp]<;>rfl)
     | cases h
   ·cases h
  ·cases h
 ·cases h
theorem zNu {ops:Array Oper} {j t:Nat} (h:(ops.toList[j]?).bind (·.dst)=some t):∃ oj,ops[j]? = some oj∧oj.dst=some t:=by
 obtain ⟨oj,h1,h2⟩:=Option.bind_eq_some_iff.1 h
 exact ⟨oj,zGf h1,h2⟩
def zI9 (vs F:List (Nat×Value)):Nat→List Oper→Bool
 | 0,_=>true
 | _+1,[]=>true
 | k+1,⟨some d,_,_,_,_,_⟩::l=>((lk vs d).isSome || (lk F d).isNone) && zI9 vs F k l
 | k+1,⟨none,_,_,_,_,_⟩::l=>zI9 vs F k l
theorem zFg {vs F:List (Nat×Value)}:∀ (k:Nat) (l:List Oper),zI9 vs F k l=true→∀ o∈l.take k,∀ d,o.dst=some d→(lk vs d).isSome=true∨lk F d=none
 | 0,l,h,o,ho,d,hd=>by simp at ho
 | k+1,[],h,o,ho,d,hd=>by simp at ho
 | k+1,⟨some d',op,ty,pos,af,gd⟩::l,h,o,ho,d,hd=>by
  simp only [zI9,Bool.and_eq_true,Bool.or_eq_true,Option.isNone_iff_eq_none] at h
  simp only [List.take_succ_cons,List.mem_cons] at ho
  rcases ho with rfl | ho
  ·injection hd with hd
   subst hd
   exact h.1
  ·exact zFg k l h.2 o ho d hd
 | k+1,⟨none,op,ty,pos,af,gd⟩::l,h,o,ho,d,hd=>by
  simp only [zI9] at h
  simp only [List.take_succ_cons,List.mem_cons] at ho
  rcases ho with rfl | ho
  ·cases hd
  ·exact zFg k l h o ho d hd
theorem zQs (A B:List (Nat×Value)) (t:Nat):lk (A++B) t=(lk A t).or (lk B t):=by
 induction A with
 | nil=>simp [lk]
 | cons p A ih =>
  obtain ⟨d,v⟩:=p
  rw [List.cons_append,zBT,zBT,ih]
  split<;>simp
theorem zR0 : ∀ {vs:List (Nat×Value)} {t:Nat} {v:Value},lk vs t=some v→(t,v)∈vs
 | (d,u)::vs,t,v,h=>by
  rw [zBT] at h
  split at h
  ·rename_i e;subst e;injection h with h;subst h;simp
  ·exact List.mem_cons_of_mem _ (zR0 h)
theorem St.run {F' vs:List (Nat×Value)} {k:Nat} {l:List Oper} (hs:St n F' w0 S M a w) (hv:∀ p∈vs,lk F' p.1=some p.2) (hk:∀ t,(∀ o∈l.take k,o.dst≠some t)→lk F' t=lk F t) (hc:zI9 vs F k l=true):St n (vs++F) w0 S M a w:=by
 refine ⟨hs.size,hs.dfr,λt u hu=>?_,hs.mem⟩
 rw [zQs] at hu
 cases h1:lk vs t with
 | some v =>
  rw [h1,Option.some_or] at hu
  injection hu with hu
  subst hu
  exact hs.agr t _ (hv _ (zR0 h1))
 | none =>
  rw [h1,Option.none_or] at hu
  refine hs.agr t u ?_
  rw [hk t (λo ho e=>?_)]
  ·exact hu
  ·rcases zFg k l hc o ho t e with h2 | h2
   ·rw [h1] at h2;cases h2
   ·rw [h2] at hu;cases hu
def zHP (l:List Oper) (k:Nat):Option Nat:=(l[k]?).bind (·.dst)
inductive zWe (l:List Oper) (Ds:List OS) (i m:Nat):List (Nat×Value)→Prop
 | n:zWe l Ds i m []
 | c {k d v r}:twB l k m i=true→zAa Ds k=Pv k v→zHP l k=some d→zWe l Ds i m r→zWe l Ds i m ((d,v)::r)
 | o {j d u r}:twB l i m j=true→(zAa Ds j).was=some u→zHP l j=some d→zWe l Ds i m r→zWe l Ds i m ((d,u)::r)
theorem zBz.at_ {l:List Oper} {k d:Nat} {v:Value} (h:zBz l k v a) (hd:zHP l k=some d):a.tmps[d]? = some v:=by
 obtain ⟨o,h1,h2⟩:=Option.bind_eq_some_iff.1 hd
 exact h o d h1 h2
variable {l : List Oper} {Ds : List OS} {M0 : List HA}
theorem zWe.get {i m : Nat} {F' : List (Nat × Value)} (h : zWe l Ds i m F') {rest : List HA} {vs : Nat → Value} (ht : ∀ k, TW l i k → zTR l Ds rest vs i k a) (hx : ∀ j, TW l j i → (∀ h ∈ (zAa Ds j).X, h ∈ rest) ∧ ∀ u, (zAa Ds j).was = some u → zBz l j u a) :
   ∀ t v,lk F' t=some v→a.tmps[t]? = some v:=by
 induction h with
 | n=>intro t v h;cases h
 | @c k d v r h1 h2 h3 _ ih =>
   intro t u hu
   rw [zBT] at hu
   split at hu
   · rename_i e
     subst e
     injection hu with hu
     subst hu
     have hk:=ht k (zJ _ _ h1)
     have hv:vs k=v:=by
       have:=hk.2.1
       rw [h2] at this
       simpa [OS.m] using this
     rw [← hv]
     exact hk.1.at_ h3
   · exact ih t u hu
 | @o j d u' r h1 h2 h3 _ ih =>
   intro t u hu
   rw [zBT] at hu
   split at hu
   · rename_i e
     subst e
     injection hu with hu
     subst hu
     exact ((hx j (zJ _ _ h1)).2 _ h2).at_ h3
   · exact ih t u hu
theorem St.told {F' R:List (Nat×Value)} {S':List Nat} {N:List HA} {w':World} (hs:St n (F++R) w' S' N a w) (h:∀ t v,lk F' t=some v→a.tmps[t]? = some v):St n (F'++F) w' S' N a w:=by
 refine ⟨hs.size,hs.dfr,λt u hu=>?_,hs.mem⟩
 rw [zQs] at hu
 cases h1:lk F' t with
 | some v=>rw [h1,Option.some_or] at hu;injection hu with hu;subst hu;exact h t _ h1
 | none =>
  rw [h1,Option.none_or] at hu
  exact hs.agr t u (by rw [zQs,hu,Option.some_or])
inductive BB1 (w:World):Option (Nat×List Value)→Prop
 | n:BB1 w none
 | c {g cs t}:(blk g cs t).p w→BB1 w (some (g,cs))
theorem BB1.get {B:Option (Nat×List Value)} (h:BB1 w B) {g:Nat} {cs:List Value} (e:B=some (g,cs)):∃ t,(blk g cs t).p w:=by
 subst e
 cases h with
 | c h=>exact ⟨_,h⟩
theorem St.lrn {F1:List (Nat×Value)} {S':List Nat} {N:List HA} {w':World} {rest:List HA} {vs:Nat→Value} {i k d:Nat} {v:Value} (hs:St n F1 w' S' N a w) (h:zTR l Ds rest vs i k a) (hp:zAa Ds k=Pv k v) (hd:zHP l k=some d):St n ((d,v)::F1) w' S' N a w:=by
 refine hs.learn ?_
 have hv:vs k=v:=by
  have:=h.2.1
  rw [hp] at this
  simpa [OS.m] using this
 rw [← hv]
 exact h.1.at_ hd
abbrev zbK (l:List Oper) (Ds:List OS) (i:Nat) (rest:List HA) (a:Act):Prop:=∀ j,TW l j i→(∀ h∈(zAa Ds j).X,h∈rest)∧∀ u,(zAa Ds j).was=some u→zBz l j u a
theorem zAt {i m d : Nat} {op : Op} {v : Value} {F' : List (Nat × Value)} {B : Option (Nat × List Value)} {ty : TypeId} {pos : String} {af : Array Edge} (hdp : zWe l Ds i m F')
   (hB:∀ {w:World} {rest:List HA} {a:Act},Mem w0 S M0 w→Mem w0 S ([]++(M0++rest)) w→zbK l Ds i rest a→BB1 w B) (h:za0 P (F'++F) B op=some v) (he:(eq1 (F'++F) B op).map Prod.fst=(eq1 (F'++F) B op).map Prod.snd) (hd:Nat.blt d n=true) :
   zTV P l n F w0 S M0 Ds i ⟨some d,op,ty,pos,af,none⟩ (Pv i v):=by
 intro a w R rest vs hm hs ht hx
 have hsG:=hs.told (hdp.get ht hx)
 exact zDn rfl rfl (zH5 h hsG (hB hm.mid hm hx).get λp hp=>List.map_inj_left.1 he p hp) (wpList_nil ⟨rfl,v,_,hs.bare,.r,hs.put hd v,by simp [OS.m,zW0]⟩)
inductive Fr where
 | sq (c:Code)
 | bk (id:Nat)
 | th (R:Act→World→Prop)
def stk (P:Program) (Q:Exit→Act→World→Prop):List Fr→Exit→Act→World→Prop
 | []=>Q
 | .sq c::k=>Exit.then (λa w=>c.wp P (stk P Q k) a w) (stk P Q k)
 | .bk id::k=>Exit.inBlock id (stk P Q k)
 | .th R::k=>Exit.then R (stk P Q k)
inductive Pl where
 | mid (ops:Array Oper) (l:List Oper) (k:List Fr)
 | code (c:Code) (k:List Fr)
 | ex (e:Exit) (k:List Fr)
def G (P:Program) (Q:Exit→Act→World→Prop):Pl→Act→World→Prop
 | .mid ops l k=>wpList P ops (stk P Q k) l
 | .code c k=>c.wp P (stk P Q k)
 | .ex e k=>stk P Q k e
def zcG : Pl→Option Pl
 | .mid _ [] k=>some (.ex .normal k)
 | .mid _ (_::_) _=>none
 | .code (.seq c d) k=>some (.code c (.sq d::k))
 | .code (.region _ ops false) k=>some (.mid ops ops.toList k)
 | .code .skip k=>some (.ex .normal k)
 | .code (.block id c) k=>some (.code c (.bk id::k))
 | .code (.exit i) k=>some (.ex (.exit i) k)
 | .code .ret k=>some (.ex .ret k)
 | .code _ _=>none
 | .ex .normal (.sq c::k)=>some (.code c k)
 | .ex .normal (.bk _::k)=>some (.ex .normal k)
 | .ex (.exit i) (.bk j::k)=>bif Nat.beq i j then some (.ex .normal k) else some (.ex (.exit i) k)
 | .ex (.exit i) (.sq _::k)=>some (.ex (.exit i) k)
 | .ex (.exit i) (.th _::k)=>some (.ex (.exit i) k)
 | .ex .ret (_::k)=>some (.ex .ret k)
 | .ex _ _=>none
variable {P : Program} {Q : Exit → Act → World → Prop} {n : Nat} {F : List (Nat × Value)} {w0 : World} {S : List Nat} {M : List HA} {a : Act} {w : World}
theorem zXX {pl pl':Pl} (h:zcG pl=some pl') (hg:G P Q pl' a w):G P Q pl a w:=by
 unfold zcG at h
 split at h
 all_goals first
  | (injection h with h;subst h)
  | cases h
  | skip
 ·exact hg
 ·exact wp_seq hg
 ·rename_i ops k;exact wp_region_lit (l:=ops.toList) hg
 ·exact wp_skip hg
 ·exact wp_block hg
 ·exact wp_exit hg
 ·exact wp_ret hg
 ·exact hg
 ·exact hg
 ·rename_i i j k
  show Exit.inBlock j (stk P Q k) (.exit i) a w
  cases hb:Nat.beq i j with
  | true =>
   rw [hb] at h;simp only [cond_true,Option.some.injEq] at h;subst h
   have:=Nat.eq_of_beq_eq_true hb;subst this
   exact zP6 hg
  | false =>
   rw [hb] at h;simp only [cond_false,Option.some.injEq] at h;subst h
   exact zX3 hb hg
 ·exact hg
 ·exact hg
 ·rename_i x k
  cases x<;>exact hg
def bkH (b:Nat×List Value×TypeId):HA:=blk b.1 b.2.1 b.2.2
inductive zDu : List HA→List (Nat×List Value×TypeId)→List HA→Prop
 | n {X:List HA}:zDu X [] X
 | c {X:List HA} {g cs t X1 Bs X2}:Del X (blk g cs t) X1→zDu X1 Bs X2→zDu X ((g,cs,t)::Bs) X2
theorem Del.permM {M M':List HA} {x:HA} (h:Del M x M'):M.Perm (x::M'):=by
 induction h with
 | z=>exact List.Perm.refl _
 | s _ ih=>exact (List.Perm.cons _ ih).trans (List.Perm.swap _ _ _)
theorem zDu.perm {Bs:List (Nat×List Value×TypeId)} {M1:List HA} (h:zDu M Bs M1):M.Perm (Bs.map bkH++M1):=by
 induction h with
 | n=>exact List.Perm.refl _
 | c d _ ih=>exact d.permM.trans (List.Perm.cons _ ih)
theorem St.permM {M':List HA} (hs:St n F w0 S M a w) (h:M.Perm M'):St n F w0 S M' a w:=⟨hs.size,hs.dfr,hs.agr,hs.mem.perm h⟩
def zZ1 (q:Nat) (x:Nat×List Value×TypeId):List (Nat×List Value×TypeId)→(List (Nat×List Value×TypeId)→Prop)→Prop
 | [],_=>False
 | b::r,c=>match q with
  | 0=>c (x::r)
  | q+1=>zZ1 q x r λr'=>c (b::r')
theorem zKr {x:Nat×List Value×TypeId}:∀ {q:Nat} {B:List (Nat×List Value×TypeId)} {c:List (Nat×List Value×TypeId)→Prop},zZ1 q x B c→∃ B1 b B2,B=B1++b::B2∧B[q]? = some b∧c (B1++x::B2)
 | _,[],_,h=>absurd h (by simp [zZ1])
 | 0,b::r,c,h=>⟨[],b,r,rfl,rfl,h⟩
 | q+1,b::r,c,h=>by
  obtain ⟨B1,b',B2,rfl,h2,h3⟩:=zKr (q:=q) (B:=r) h
  exact ⟨b::B1,b',B2,rfl,h2,h3⟩
def zGH : Value→Option (List Value)
 | .agg vs=>some vs.toList
 | .bool b=>some [.bool b]
 | .int k x=>some [.int k x]
 | .string s=>some [.string s]
 | .pointer p=>some [.pointer p]
 | .slice p l c=>some [.slice p l c]
 | .map g=>some [.map g]
 | .func f x y=>some [.func f x y]
 | .nilFunc=>some [.nilFunc]
 | _=>none
theorem zCP {v:Value} {cs:List Value} (h:zGH v=some cs):v.cells=cs.toArray:=by
 unfold zGH at h
 split at h<;>first | (injection h with h;subst h;simp [Value.cells]) | cases h
def zb0 (v:Value):Bool:=match v with
 | .bool _ | .int _ _ | .string _ | .pointer _ | .slice _ _ _ | .map _ | .func _ _ _ | .nilFunc=>true
 | _=>false
theorem zXN {v:Value} (h:zb0 v=true):v.oneCell'=true:=by cases v<;>first | rfl | (simp [zb0] at h)
def zU0 (P:Program) (t:TypeId):Option Value:=(P.info? t).bind (·.zero)
theorem zUu {t:TypeId} {z:Value} (h:zU0 P t=some z) (w:World):(zeroValue t).run P w = .ok z w:=by
 obtain ⟨i,hi,hz⟩:=Option.bind_eq_some_iff.1 h
 simp [zeroValue,typeInfo,hi,hz]
def zPy : Nat→List Value→(List Value→Prop)→Prop
 | 0,_,c=>c []
 | _+1,[],_=>False
 | k+1,x::r,c=>zPy k r λl=>c (x::l)
theorem zJN : ∀ {k:Nat} {l:List Value} {c:List Value→Prop},zPy k l c→k≤l.length∧c (l.take k)
 | 0,_,_,h=>⟨Nat.zero_le _,by simpa [zPy] using h⟩
 | _+1,[],_,h=>absurd h (by simp [zPy])
 | k+1,x::r,c,h=>by
  have:=zJN (k:=k) (l:=r) h
  exact ⟨by simp;exact this.1,by simpa using this.2⟩
def zb2 : Nat→Nat→List Value→(List Value→Prop)→Prop
 | 0,k,l,c=>zPy k l c
 | _+1,_,[],_=>False
 | o+1,k,_::r,c=>zb2 o k r c
theorem zLH : ∀ {o k:Nat} {l:List Value} {c:List Value→Prop},zb2 o k l c→o+k≤l.length∧c ((l.drop o).take k)
 | 0,k,l,c,h=>by have:=zJN (k:=k) (l:=l) h;simpa using this
 | _+1,_,[],_,h=>absurd h (by simp [zb2])
 | o+1,k,_::r,c,h=>by
  have:=zLH (o:=o) (k:=k) (l:=r) h
  exact ⟨by simp;omega,by simpa using this.2⟩
def zOo (P:Program) (t:TypeId) (cs:List Value) (off:Nat) (c:Value→Prop):Prop :=
 match P.underlying t,zHU P t with
 | some _,some k=>bif zBN P t then zb2 off k cs λr=>c (.agg r.toArray) else match cs[off]? with
  | some v=>c v
  | none=>False
 | _,_=>False
theorem zGi {t:TypeId} {cs:List Value} {off:Nat} {c:Value→Prop} (h:zOo P t cs off c):∃ v,zTU P t cs off=some v∧c v:=by
 unfold zOo at h
 split at h
 ·rename_i ds k hu hsz
  cases hb:zBN P t with
  | true =>
   rw [hb] at h
   obtain ⟨h1,h2⟩:=zLH h
   refine ⟨_,?_,h2⟩
   simp only [zTU,hu,hsz,hb,cond_true]
   rw [show Nat.ble (off+k) cs.length=true by simpa using h1];rfl
  | false =>
   rw [hb] at h
   simp only [cond_false] at h
   split at h
   ·rename_i v hv
    refine ⟨v,?_,h⟩
    simp only [zTU,hu,hsz,hb,cond_false]
    exact hv
   ·cases h
 ·cases h
def zUV : List Value→List Value→(List Value→Prop)→Prop
 | [],l,c=>c l
 | _::_,[],_=>False
 | u::us,_::r,c=>zUV us r λl=>c (u::l)
theorem zJP : ∀ {us l:List Value} {c:List Value→Prop},zUV us l c→∃ l',Cov l us l'∧c l'
 | [],l,_,h=>⟨l,.n,h⟩
 | _::_,[],_,h=>absurd h (by simp [zUV])
 | u::us,x::r,c,h=>by
  obtain ⟨l',h1,h2⟩:=zJP (us:=us) (l:=r) h
  exact ⟨_,.c h1,h2⟩
def zWs : Nat→List Value→List Value→(List Value→Prop)→Prop
 | 0,us,l,c=>zUV us l c
 | _+1,_,[],_=>False
 | o+1,us,x::r,c=>zWs o us r λl=>c (x::l)
theorem zGA : ∀ {o:Nat} {us l:List Value} {c:List Value→Prop},zWs o us l c→∃ l',zIq l o us l'∧c l'
 | 0,us,l,c,h=>by obtain ⟨l',h1,h2⟩:=zJP h;exact ⟨l',.z h1,h2⟩
 | _+1,_,[],_,h=>absurd h (by simp [zWs])
 | o+1,us,x::r,c,h=>by
  obtain ⟨l',h1,h2⟩:=zGA (o:=o) h
  exact ⟨_,.s h1,h2⟩
def zbU (F:List (Nat×Value)):List Operand→(List Value→Prop)→Prop
 | [],c=>c []
 | x::r,c=>match evo F x with
  | some v=>zbU F r λl=>c (v::l)
  | none=>False
theorem zE7 : ∀ {xs:List Operand} {c:List Value→Prop},zbU F xs c→∃ vs,Evs F xs vs∧c vs
 | [],c,h=>⟨[],.n,h⟩
 | x::r,c,h=>by
  unfold zbU at h
  split at h
  ·rename_i v hv
   obtain ⟨vs,h1,h2⟩:=zE7 (xs:=r) h
   exact ⟨v::vs,.c hv h1,h2⟩
  ·cases h
abbrev BL := List (Nat×List Value×TypeId)
abbrev Kt := List (Nat×Value)→BL→List Nat→Prop
def zEa (n:Nat) (F:List (Nat×Value)) (d:Option Nat) (v:Value) (c:List (Nat×Value)→Prop):Prop :=
 match d with
 | some d=>bif Nat.blt d n then c ((d,v)::F) else False
 | none=>False
theorem zBu {d:Option Nat} {v:Value} {c:List (Nat×Value)→Prop} (h:zEa n F d v c):∃ d',d=some d'∧Nat.blt d' n=true∧c ((d',v)::F):=by
 unfold zEa at h
 split at h
 ·rename_i d'
  cases hb:Nat.blt d' n with
  | true=>rw [hb] at h;exact ⟨d',rfl,hb,h⟩
  | false=>rw [hb] at h;cases h
 ·cases h
def zPw (P:Program) (t:TypeId) (u:Value) (c:List Value→Prop):Prop :=
 bif zBN P t then match u with
  | .agg vs=>c vs.toList
  | _=>False
 else c [u]
def zUs (m:Bool) (us:List Value) (c:Prop):Prop:=bif m then (∀ u∈us,u.oneCell'=true)∧c else bif us.all zb0 then c else False
theorem zJO {m:Bool} {us:List Value} {c:Prop} (h:zUs m us c):(∀ u∈us,u.oneCell'=true)∧c:=by
 unfold zUs at h
 cases m with
 | true=>exact h
 | false =>
  simp only [cond_false] at h
  cases hb:us.all zb0 with
  | true=>rw [hb] at h;exact ⟨λu hu=>zXN (List.all_eq_true.1 hb u hu),h⟩
  | false=>rw [hb] at h;cases h
def zMK : List Value→List FK→Bool
 | [],[]=>true
 | .int k _::r,.i k'::s=>(k==k') && zMK r s
 | .bool _::r,.b::s=>zMK r s
 | _,_=>false
def zNg (F:List (Nat×Value)):Nat→List (Nat×Operand)→(List Value→Prop)→Prop
 | _,[],c=>c []
 | i, (j, x) :: r, c => bif Nat.beq i j then match evo F x with
     | some v=>zNg F (i+1) r λl=>c (v::l)
     | none=>False
   else False
theorem zHz : ∀ {ps:List (Nat×Operand)} {i:Nat} {c:List Value→Prop},zNg F i ps c→∃ xs vs,zL2 i ps xs∧Evs F xs vs∧c vs
 | [],i,c,h=>⟨[],[],.n,.n,h⟩
 | (j,x)::r,i,c,h=>by
  unfold zNg at h
  cases hb:Nat.beq i j with
  | false=>rw [hb] at h;cases h
  | true =>
   rw [hb] at h
   have:=Nat.eq_of_beq_eq_true hb
   subst this
   simp only [cond_true] at h
   split at h
   ·rename_i v hv
    obtain ⟨xs,vs,h1,h2,h3⟩:=zHz (ps:=r) h
    exact ⟨x::xs,v::vs,.c h1,.c hv h2,h3⟩
   ·cases h
def zLT : List Value→Nat→(List Value→Prop)→Prop
 | [],_,c=>c []
 | v::r,sz,c=>match zGH v with
  | some us=>bif Nat.beq us.length sz then zLT r sz λl=>appK us l c else False
  | none=>False
where appK:List Value→List Value→(List Value→Prop)→Prop
 | [],l,c=>c l
 | u::us,l,c=>appK us l λl'=>c (u::l')
theorem zKs : ∀ {us l:List Value} {c:List Value→Prop},zLT.appK us l c→c (us++l)
 | [],_,_,h=>h
 | u::us,l,c,h=>zKs (us:=us) (c:=λl'=>c (u::l')) h
theorem zI8 {sz:Nat}:∀ {vs:List Value} {c:List Value→Prop},zLT vs sz c→(vs.all λv=>Nat.beq v.cells.size sz)=true∧c (vs.flatMap λv=>v.cells.toList)
 | [],_,h=>⟨rfl,h⟩
 | v::r,c,h=>by
  unfold zLT at h
  split at h
  ·rename_i us hu
   have hc:=zCP hu
   cases hb:Nat.beq us.length sz with
   | false=>rw [hb] at h;cases h
   | true =>
    rw [hb] at h
    simp only [cond_true] at h
    obtain ⟨h1,h2⟩:=zI8 (vs:=r) h
    refine ⟨?_,?_⟩
    ·simp only [List.all_cons,h1,Bool.and_true,hc];simpa using hb
    ·have:=zKs h2
     simpa [List.flatMap_cons,hc] using this
  ·cases h
def zOb (P:Program) (F:List (Nat×Value)) (fs:List Field):List (Nat×Operand)→List Value→(List Value→Prop)→Prop
 | [],cs,c=>c cs
 | (i,x)::r,cs,c=>match evo F x,fs[i]? with
  | some v,some f=>match zHU P f.type,zGH v with
   | some sz,some us=>bif Nat.beq us.length sz then zWs f.offset us cs λcs'=>zOb P F fs r cs' c else False
   | _,_=>False
  | _,_=>False
def zKP (F:List (Nat×Value)) (sz:Nat):List (Nat×Operand)→List Value→(List Value→Prop)→Prop
 | [],cs,c=>c cs
 | (i,x)::r,cs,c=>match evo F x with
  | some v=>match zGH v with
   | some us=>bif Nat.beq us.length sz then zWs (i*sz) us cs λcs'=>zKP F sz r cs' c else False
   | none=>False
  | none=>False
def zIf (P:Program) (fs:List Field):Option (List (Nat×Nat)):=fs.mapM λf=>(P.info? f.type).map λi=>(f.offset,i.size)
theorem zVg {fs:List Field} {pl:List (Nat×Nat)} (h:zIf P fs=some pl) {i:Nat} {f:Field} (hf:fs[i]? = some f):pl[i]? = (P.info? f.type).map λi=>(f.offset,i.size):=by
 unfold zIf at h
 induction fs generalizing pl i with
 | nil=>simp at hf
 | cons g fs ih =>
  simp only [List.mapM_cons,Option.bind_eq_bind] at h
  obtain ⟨p,hp,h⟩:=Option.bind_eq_some_iff.1 h
  obtain ⟨r,hr,h⟩:=Option.bind_eq_some_iff.1 h
  have h:p::r=pl:=by simpa using h
  subst h
  cases i with
  | zero=>simp only [List.getElem?_cons_zero,Option.some.injEq] at hf ⊢;subst hf;exact hp.symm
  | succ i=>simpa using ih hr (by simpa using hf)
theorem zFf {fs:List Field} {pl:List (Nat×Nat)} (hpl:zIf P fs=some pl):∀ {ps:List (Nat×Operand)} {cs:List Value} {c:List Value→Prop},zOb P F fs ps cs c→∃ vs cs',EvP F ps vs∧zKe (pl.toArray[·]?) cs vs cs'∧c cs'
 | [],cs,c,h=>⟨[],cs,.n,.n,h⟩
 | (i,x)::r,cs,c,h=>by
  unfold zOb at h
  split at h
  ·rename_i v f hv hf
   split at h
   ·rename_i sz us hsz hu
    cases hb:Nat.beq us.length sz with
    | false=>rw [hb] at h;cases h
    | true =>
     rw [hb] at h
     simp only [cond_true] at h
     have hl:=Nat.eq_of_beq_eq_true hb
     obtain ⟨cs1,h1,h2⟩:=zGA h
     obtain ⟨vs,cs',h3,h4,h5⟩:=zFf hpl (ps:=r) h2
     refine ⟨(i,v)::vs,cs',.c hv h3,.c (off:=f.offset) ?_ (by rw [zCP hu]) h1 h4,h5⟩
     obtain ⟨inf,hi1,hi2⟩:=Option.map_eq_some_iff.1 hsz
     have:=zVg hpl hf
     rw [hi1] at this
     simp only [Option.map_some] at this
     rw [hl,← hi2]
     simpa using this
   ·cases h
  ·cases h
theorem zE5 {sz:Nat}:∀ {ps:List (Nat×Operand)} {cs:List Value} {c:List Value→Prop},zKP F sz ps cs c→∃ vs cs',EvP F ps vs∧zKe (λi=>some (i*sz,sz)) cs vs cs'∧c cs'
 | [],cs,c,h=>⟨[],cs,.n,.n,h⟩
 | (i,x)::r,cs,c,h=>by
  unfold zKP at h
  split at h
  ·rename_i v hv
   split at h
   ·rename_i us hu
    cases hb:Nat.beq us.length sz with
    | false=>rw [hb] at h;cases h
    | true =>
     rw [hb] at h
     simp only [cond_true] at h
     have hl:=Nat.eq_of_beq_eq_true hb
     obtain ⟨cs1,h1,h2⟩:=zGA h
     obtain ⟨vs,cs',h3,h4,h5⟩:=zE5 (ps:=r) h2
     exact ⟨(i,v)::vs,cs',.c hv h3,.c (off:=i*sz) (by rw [hl]) (by rw [zCP hu]) h1 h4,h5⟩
   ·cases h
  ·cases h
def zXe (xs:List Value):List FK:=xs.map λv=>match v with
 | .int k _=>.i k
 | _=>.b
abbrev R64 (p:Int):Prop:=-9223372036854775808≤p∧p≤9223372036854775807
def zHr (P:Program) (n:Nat) (F:List (Nat×Value)) (B:BL) (ann:List Nat) (d:Option Nat) (op:Op) (c:Kt):Prop :=
 match op with
 | .load t x=>match evo F x,ann with
   | some (.pointer (some ⟨g,i,none⟩)),q::ann'=>match B[q]? with
     | some (g',cs,_)=>g=g'∧zOo P t cs i λv=>zEa n F d v λF'=>c F' B ann'
     | none=>False
   | _,_=>False
 | .store t x y=>match d,evo F x,evo F y,ann,zHU P t,P.underlying t with
   | none,some (.pointer (some ⟨g,i,none⟩)),some u,q::ann',some sz,some _=>match B[bif Nat.ble 50 q then q-50 else q]? with
     | some (g',cs,t2)=>g=g'∧zPw P t u λus=>zUs (Nat.ble 50 q) us (bif Nat.beq us.length sz then zWs i us cs λcs'=>zZ1 (bif Nat.ble 50 q then q-50 else q) (g',cs',t2) B λB'=>c F B' ann' else False)
     | none=>False
   | _,_,_,_,_,_=>False
 | .alloc t=>match zU0 P t with
   | some z=>match zGH z with
     | some cs=>∀ g:Nat,zEa n F d (.pointer (some ⟨g,0,none⟩)) λF'=>c F' ((g,cs,t)::B) ann
     | none=>False
   | none=>False
 | .box t x=>match evo F x,ann with
   | some v,0::ann'=>match zGH v with
     | some cs=>∀ g:Nat,zEa n F d (.pointer (some ⟨g,0,none⟩)) λF'=>c F' ((g,cs,t)::B) ann'
     | none=>False
   | some v,_::ann'=>v.oneCell'=true∧∀ g:Nat,zEa n F d (.pointer (some ⟨g,0,none⟩)) λF'=>c F' ((g,[v],t)::B) ann'
   | _,_=>False
 | .makeFunc fn fs cs=>zbU F fs.toList λvs=>zbU F cs.toList λus=>zEa n F d (.func fn vs.toArray us.toArray) λF'=>c F' B ann
 | .build t ps=>match P.underlying t,zU0 P t with
   | some (.struct fs),some z=>match zGH z,zIf P fs.toList with
     | some zs,some _=>zOb P F fs.toList ps.toList zs λcs=>zEa n F d (.agg cs.toArray) λF'=>c F' B ann
     | _,_=>False
   | some (.array _ e),some z=>match zGH z,zHU P e with
     | some zs,some sz=>zKP F sz ps.toList zs λcs=>zEa n F d (.agg cs.toArray) λF'=>c F' B ann
     | _,_=>False
   | _,_=>False
 | .buildSlice t m ps=>match P.underlying t with
   | some (.slice e)=>match zU0 P e,zHU P e with
     | some z,some sz=>bif Nat.blt 0 m && (Nat.blt 0 sz && (Nat.beq z.cells.size sz && Nat.ble (m*sz) 16777216)) then zNg F 0 ps.toList λvs=>bif Nat.beq vs.length m then zLT vs sz λcs=>∀ g:Nat,zEa n F d (.slice (some ⟨g,0,none⟩) m m) λF'=>c F' ((g,cs,e)::B) ann else False else False
     | _,_=>False
   | _=>False
 | .field t x f=>match evo F x with
   | some (.agg vs)=>match P.underlying t with
     | some (.struct fs)=>match fs.toList[f]? with
       | some fd=>zOo P fd.type vs.toList fd.offset λv=>zEa n F d v λF'=>c F' B ann
       | none=>False
     | _=>False
   | _=>False
 | .index t x i=>match evo F x,evo F i with
   | some (.agg vs),some (.int _ (.ofNat q))=>match P.underlying t with
     | some (.array len e)=>match zHU P e with
       | some size=>bif Nat.blt q len then zOo P e vs.toList (q*size) λv=>zEa n F d v λF'=>c F' B ann else False
       | none=>False
     | _=>False
   | _,_=>False
 | .call ⟨.builtin .len,xs,ts⟩=>match xs.toList,ts.toList with
   | [x],[t]=>match evo F x,P.underlying t with
     | some (.slice _ m _),some (.slice _)=>zEa n F d (.int .i64 (m:Int)) λF'=>c F' B ann
     | _,_=>False
   | _,_=>False
 | .call ⟨.builtin .min,xs,_⟩=>match xs.toList with
   | [x,y]=>match evo F x,evo F y with
     | some (.int .i64 p),some (.int .i64 q)=>zEa n F d (.int .i64 (min p q)) λF'=>c F' B ann
     | _,_=>False
   | _=>False
 | .call ⟨.builtin .max,xs,_⟩=>match xs.toList with
   | [x,y]=>match evo F x,evo F y with
     | some (.int .i64 p),some (.int .i64 q)=>zEa n F d (.int .i64 (max p q)) λF'=>c F' B ann
     | _,_=>False
   | _=>False
 | .unOp .neg _ x=>match evo F x with
   | some (.int .i64 p)=>R64 (-p)∧zEa n F d (.int .i64 (-p)) λF'=>c F' B ann
   | _=>False
 | .binOp o t x y t2=>match evo F x,evo F y with
   | some (.int .i64 p),some (.int .i64 q)=>match o with
     | .add=>R64 (p+q)∧zEa n F d (.int .i64 (p+q)) λF'=>c F' B ann
     | .sub=>R64 (p-q)∧zEa n F d (.int .i64 (p-q)) λF'=>c F' B ann
     | .mul=>R64 (p*q)∧zEa n F d (.int .i64 (p*q)) λF'=>c F' B ann
     | .lss=>zEa n F d (.bool (decide (p<q))) λF'=>c F' B ann
     | .leq=>zEa n F d (.bool (decide (p≤q))) λF'=>c F' B ann
     | .gtr=>zEa n F d (.bool (decide (q<p))) λF'=>c F' B ann
     | .geq=>zEa n F d (.bool (decide (q≤p))) λF'=>c F' B ann
     | .eql=>zEa n F d (.bool (p==q)) λF'=>c F' B ann
     | .neq=>zEa n F d (.bool (!(p==q))) λF'=>c F' B ann
     | _=>False
   | some (.bool p),some (.bool q)=>match P.underlying t,o with
     | some .bool,.eql=>zEa n F d (.bool (p==q)) λF'=>c F' B ann
     | some .bool,.neq=>zEa n F d (.bool (!(p==q))) λF'=>c F' B ann
     | _,_=>False
   | some (.pointer p),some (.pointer none)=>match P.underlying t,o,p with
     | some (.pointer _),.eql,none=>zEa n F d (.bool true) λF'=>c F' B ann
     | some (.pointer _),.eql,some _=>zEa n F d (.bool false) λF'=>c F' B ann
     | some (.pointer _),.neq,none=>zEa n F d (.bool false) λF'=>c F' B ann
     | some (.pointer _),.neq,some _=>zEa n F d (.bool true) λF'=>c F' B ann
     | _,_,_=>False
   | some (.agg xs), some (.agg ys) => (zHS P 6 t, P.eqGuardType P.depth t) = (some (zXe xs.toList), false) ∧ bif zMK xs.toList (zXe xs.toList) && (zMK ys.toList (zXe xs.toList) && zBN P t) then match o with
         | .eql=>zEa n F d (.bool (zAK xs.toList ys.toList)) λF'=>c F' B ann
         | .neq=>zEa n F d (.bool (!(zAK xs.toList ys.toList))) λF'=>c F' B ann
         | _=>False
       else False
   | some (.int k p),some (.int k2 q)=>match za0 P F none (.binOp o t x y t2) with
     | some v=>zEa n F d v λF'=>c F' B ann
     | none=>False
   | _,_=>False
 | op=>match za0 P F none op with
   | some v=>zEa n F d v λF'=>c F' B ann
   | none=>False
variable {ops : Array Oper} {rest : List Oper} {M1 : List HA} {B : BL} {ann : List Nat} {d : Option Nat} {ty : TypeId} {pos : String} {af : Array Edge}
theorem zE6 {α:Type} {xs:Array α} {l:List α} (h:xs.toList=l):xs=l.toArray:=by rw [← h]
theorem zaX {q:Nat} {b:Nat×List Value×TypeId} (hs:St n F w0 S (B.map bkH++M1) a w) (h:B[q]? = some b):(bkH b).p w :=
 hs.mem.all _ (List.mem_append.2 (.inl (List.mem_map.2 ⟨b,List.mem_of_getElem? h,rfl⟩)))
theorem zGK {op : Op} {v : Value} {c : Kt} (hs : St n F w0 S (B.map bkH ++ M1) a w) (h : zEa n F d v fun F' => c F' B ann) (hrun : ∀ d', (execOp a.eval ⟨some d', op, ty, pos, af, none⟩).run P w = .ok (.value v) w)
   (K:∀ F' B' ann' a w,c F' B' ann'→St n F' w0 S (B'.map bkH++M1) a w→wpList P ops Q rest a w):wpList P ops Q (⟨d,op,ty,pos,af,none⟩::rest) a w:=by
 obtain ⟨d',rfl,hd,hc⟩:=zBu h
 exact zM hs (hrun d') hd λa w hs=>K _ _ _ a w hc hs
theorem zAl {op : Op} {v : Value} {c : Kt} (h : zEa n F d v fun F' => c F' B ann) (hst : ∀ d', Nat.blt d' n = true → (∀ a w, St n ((d', v) :: F) w0 S (B.map bkH ++ M1) a w → wpList P ops Q rest a w) → wpList P ops Q (⟨some d', op, ty, pos, af, none⟩ :: rest) a w)
   (K:∀ F' B' ann' a w,c F' B' ann'→St n F' w0 S (B'.map bkH++M1) a w→wpList P ops Q rest a w):wpList P ops Q (⟨d,op,ty,pos,af,none⟩::rest) a w:=by
 obtain ⟨d',rfl,hd,hc⟩:=zBu h
 exact hst d' hd λa w hs=>K _ _ _ a w hc hs
theorem zHm {t:TypeId} {cs:List Value} {off:Nat} {c:Value→Prop} (h:zOo P t cs off c):∃ v,(∀ w,(part t cs.toArray off).run P w = .ok v w)∧c v:=by
 obtain ⟨v,h1,h2⟩:=zGi h
 exact ⟨v,λw=>zKg w h1,h2⟩
theorem zRq {cs cs':List Value} {i:Nat} {u:Value} (h:zIq cs i [u] cs'):zK3 cs i u cs':=by
 generalize hus : [u]=us at h
 induction h with
 | z hc=>subst hus;cases hc with | c hn=>cases hn;exact .z
 | s _ ih=>exact .s (ih hus)
theorem zE4 : ∀ {vs:List Value} {ks:List FK},zMK vs ks=true→KFK vs ks
 | [],[],_=>.n
 | .int k z::r,.i k'::s,h=>by
  simp only [zMK,Bool.and_eq_true,beq_iff_eq] at h
  obtain ⟨rfl,h⟩:=h
  exact .i (zE4 h)
 | .bool x::r,.b::s,h=>.b (zE4 (by simpa [zMK] using h))
 | [],_::_,h=>by simp [zMK] at h
 | _::_,[],h=>by simp [zMK] at h
 | .int _ _::_,.b::_,h=>by simp [zMK] at h
 | .bool _::_,.i _::_,h=>by simp [zMK] at h
 | .float _ _::_,_::_,h | .complex _ _ _::_,_::_,h | .string _::_,_::_,h | .pointer _::_,_::_,h | .slice _ _ _::_,_::_,h | .map _::_,_::_,h | .chan _::_,_::_,h | .func _ _ _::_,_::_,h | .nilFunc::_,_::_,h | .iface _ _::_,_::_,h | .nilIface::_,_::_,h | .agg _::_,_::_,h | .tuple _::_,_::_,h=>by simp [zMK] at h
theorem zK4 {t : TypeId} {x y : Operand} {g i sz q : Nat} {u : Value} {cs : List Value} {t2 : TypeId} {c : BL → Prop} {b : Bool} (hsz : zHU P t = some sz) (hq : B[q]? = some (g, cs, t2))
   (h:zPw P t u λus=>zUs b us (bif Nat.beq us.length sz then zWs i us cs λcs'=>zZ1 q (g,cs',t2) B c else False)) :
   ∃ B',c B'∧∀ {F:List (Nat×Value)} {n:Nat} {w0:World} {S:List Nat} {M1:List HA} {a:Act} {w:World} {ops:Array Oper} {Q:Exit→Act→World→Prop} {rest:List Oper} {ty:TypeId} {pos:String} {af:Array Edge},St n F w0 S (B.map bkH++M1) a w→evo F x=some (.pointer (some ⟨g,i,none⟩))→evo F y=some u →
     (∀ a w,St n F w0 S (B'.map bkH++M1) a w→wpList P ops Q rest a w)→wpList P ops Q (⟨none,.store t x y,ty,pos,af,none⟩::rest) a w:=by
 have back:∀ {us:List Value},(bif Nat.beq us.length sz then zWs i us cs λcs'=>zZ1 q (g,cs',t2) B c else False)→∃ cs' B1 B2,us.length=sz∧zIq cs i us cs'∧B=B1++(g,cs,t2)::B2∧c (B1++(g,cs',t2)::B2):=λ{us} h=>by
   cases hb:Nat.beq us.length sz with
   | false=>rw [hb] at h;cases h
   | true =>
     rw [hb] at h
     obtain ⟨cs',h1,h2⟩:=zGA h
     obtain ⟨B1,b',B2,h3,h4,h5⟩:=zKr h2
     rw [hq] at h4
     injection h4 with h4
     subst h4
     exact ⟨cs',B1,B2,Nat.eq_of_beq_eq_true hb,h1,h3,h5⟩
 have perm:∀ (x:Nat×List Value×TypeId) (B1 B2:BL) (M1:List HA),((B1++x::B2).map bkH++M1).Perm (bkH x::((B1++B2).map bkH++M1)):=λx B1 B2 M1=>by
   simp only [List.map_append,List.map_cons,List.append_assoc,List.cons_append]
   exact List.perm_middle
 unfold zPw at h
 cases hag:zBN P t with
 | true =>
   rw [hag] at h
   simp only [cond_true] at h
   split at h
   · rename_i vs
     obtain ⟨h1,h⟩:=zJO h
     obtain ⟨cs',B1,B2,hl,hp,rfl,hc⟩:=back h
     exact ⟨_,hc,λhs hx hy K=>zAU (vs:=vs.toList) (hs.permM (perm (g,cs,t2) B1 B2 _)) hx hy .z hp h1 (λw=>zCz w hsz) hl λa w hs=>K a w (hs.permM (perm (g,cs',t2) B1 B2 _).symm)⟩
   · cases h
 | false =>
   rw [hag] at h
   simp only [cond_false] at h
   obtain ⟨h1,h⟩:=zJO h
   obtain ⟨cs',B1,B2,hl,hp,rfl,hc⟩:=back h
   exact ⟨_,hc,λhs hx hy K=>zBh (hs.permM (perm (g,cs,t2) B1 B2 _)) hx hy .z (zRq hp) (h1 u (by simp)) (λw=>by rw [zCz w hsz,← hl];rfl) λa w hs=>K a w (hs.permM (perm (g,cs',t2) B1 B2 _).symm)⟩
theorem zJv {op : Op} {c : Kt} (h : zHr P n F B ann d op c) (hs : St n F w0 S (B.map bkH ++ M1) a w)
   (K:∀ F' B' ann' a w,c F' B' ann'→St n F' w0 S (B'.map bkH++M1) a w→wpList P ops Q rest a w):wpList P ops Q (⟨d,op,ty,pos,af,none⟩::rest) a w:=by
 unfold zHr at h
 split at h
 · split at h
   · rename_i g i q ann' hx
     split at h
     · rename_i g' cs t2 hq
       obtain ⟨rfl,h⟩:=h
       obtain ⟨v,hv,h⟩:=zGi h
       exact zGK hs h (λd'=>by simp [execOp,Instr.loadAt,Instr.sureAddr,hs.ev hx,zIZ (P:=P) w (zaX hs hq) hv]) K
     · cases h
   · cases h
 · split at h
   · rename_i g i u q ann' sz ds hx hy hsz hu
     split at h
     · rename_i g' cs t2 hq
       obtain ⟨rfl,h⟩:=h
       obtain ⟨B',hc,hr⟩:=zK4 hsz hq h
       exact hr hs hx hy λa w hs=>K _ _ _ a w hc hs
     · cases h
   · cases h
 · split at h
   · rename_i z hz
     split at h
     · rename_i cs hcs
       obtain ⟨d',rfl,hd,_⟩:=zBu (h 0)
       refine zBm hs (zUu hz) (zCP hcs) hd λg a w hs=>?_
       obtain ⟨d2,hd2,_,hc⟩:=zBu (h g)
       injection hd2 with hd2
       subst hd2
       exact K _ _ _ a w hc hs
     · cases h
   · cases h
 · split at h
   · rename_i v ann' hx
     split at h
     · rename_i cs hcs
       obtain ⟨d',rfl,hd,_⟩:=zBu (h 0)
       refine zJG hs hx (zCP hcs) hd λg a w hs=>?_
       obtain ⟨d2,hd2,_,hc⟩:=zBu (h g)
       injection hd2 with hd2
       subst hd2
       exact K _ _ _ a w hc hs
     · cases h
   · rename_i v q ann' _ hx
     obtain ⟨h1,h⟩:=h
     obtain ⟨d',rfl,hd,_⟩:=zBu (h 0)
     refine zJG (cs:=[v]) hs hx (by cases v<;>first | rfl | (simp [Value.oneCell'] at h1;done)) hd λg a w hs=>?_
     obtain ⟨d2,hd2,_,hc⟩:=zBu (h g)
     injection hd2 with hd2
     subst hd2
     exact K _ _ _ a w hc hs
   · cases h
 · rename_i fn fs cs
   obtain ⟨vs,h1,h⟩:=zE7 h
   obtain ⟨us,h2,h⟩:=zE7 h
   exact zAl h (λd' hd K=>by have:=zZ7 (P:=P) (ops:=ops) (Q:=Q) (rest:=rest) (fn:=fn) (ty:=ty) (pos:=pos) (af:=af) hs h1 h2 hd K;simpa using this) K
 · split at h
   · rename_i ps fs z ht hz
     split at h
     · rename_i zs pl hzs hpl
       obtain ⟨vs,cs,h1,h2,h⟩:=zFf hpl h
       obtain ⟨it,hit,hz'⟩:=Option.bind_eq_some_iff.1 hz
       exact zAl h (λd' hd K=>by have:=zF1 (P:=P) (ops:=ops) (Q:=Q) (rest:=rest) (ty:=ty) (pos:=pos) (af:=af) hs h1 ht hit hz' (by rw [zCP hzs]) hpl h2 hd K;simpa using this) K
     · cases h
   · rename_i ps len e z ht hz
     split at h
     · rename_i zs sz hzs hsz
       obtain ⟨vs,cs,h1,h2,h⟩:=zE5 h
       obtain ⟨it,hit,hz'⟩:=Option.bind_eq_some_iff.1 hz
       obtain ⟨ie,hie,hsz'⟩:=Option.map_eq_some_iff.1 hsz
       exact zAl h (λd' hd K=>by have:=zSO (P:=P) (ops:=ops) (Q:=Q) (rest:=rest) (ty:=ty) (pos:=pos) (af:=af) hs h1 ht hit hz' (by rw [zCP hzs]) hie hsz' h2 hd K;simpa using this) K
     · cases h
   · cases h
 · rename_i tt m ps
   split at h
   · rename_i e ht
     split at h
     · rename_i z sz hz hsz
       cases hb:(Nat.blt 0 m && (Nat.blt 0 sz && (Nat.beq z.cells.size sz && Nat.ble (m*sz) 16777216))) with
       | false=>rw [hb] at h;cases h
       | true =>
         rw [hb] at h
         simp only [cond_true] at h
         obtain ⟨xs,vs,h1,h2,h⟩:=zHz h
         cases hb2:Nat.beq vs.length m with
         | false=>rw [hb2] at h;cases h
         | true =>
           rw [hb2] at h
           simp only [cond_true] at h
           obtain ⟨h3,h⟩:=zI8 h
           obtain ⟨ie,hie,hz'⟩:=Option.bind_eq_some_iff.1 hz
           obtain ⟨ie',hie',hsz'⟩:=Option.map_eq_some_iff.1 hsz
           rw [hie] at hie'
           injection hie' with hie'
           subst hie'
           simp only [Bool.and_eq_true,Nat.blt_eq,Nat.beq_eq_true_eq,Nat.ble_eq] at hb
           obtain ⟨d',rfl,hd,_⟩:=zBu (h 0)
           have:=zHt (P:=P) (ops:=ops) (Q:=Q) (rest:=rest) (ty:=ty) (pos:=pos) (af:=af) (m:=m) (size:=sz) hs h1 h2 ht hie hz' hsz' (Nat.eq_of_beq_eq_true hb.2.2.1) hb.2.1 hb.1 (Nat.eq_of_beq_eq_true hb2) (by simpa using hb.2.2.2) h3 rfl hd λg a w hs=>by
             obtain ⟨d2,hd2,_,hc⟩:=zBu (h g)
             injection hd2 with hd2
             subst hd2
             exact K _ _ _ a w hc hs
           simpa using this
     · cases h
   · cases h
 · split at h
   · rename_i f vs hx
     split at h
     · rename_i fs ht
       split at h
       · rename_i fd hf
         obtain ⟨v,hv,h⟩:=zHm h
         have hf':=zGf hf
         have hv':=hv w
         simp only [Array.toArray_toList] at hv'
         exact zGK hs h (λd'=>by simp [execOp,Instr.field,hs.ev hx,run_underlying ht,hf',asAgg,hv']) K
       · cases h
     · cases h
   · cases h
 · split at h
   · rename_i vs _ q hx hi
     split at h
     · rename_i len e ht
       split at h
       · rename_i size hsz
         cases hb:Nat.blt q len with
         | false=>rw [hb] at h;cases h
         | true =>
           rw [hb] at h
           simp only [cond_true] at h
           obtain ⟨v,hv,h⟩:=zHm h
           have hv':=hv w
           simp only [Array.toArray_toList] at hv'
           have hb2:=hb
           simp only [Nat.blt_eq] at hb2
           exact zGK hs h (λd'=>by simp only [execOp,Instr.index,asIntOf,hs.ev hx,hs.ev hi];simp [run_underlying ht,zCz _ hsz,hv',hb2]) K
       · cases h
     · cases h
   · cases h
 · split at h
   · rename_i x t hxs hts
     split at h
     · rename_i p m cc e hx ht
       rw [zE6 hxs,zE6 hts]
       exact zAl h (λd' hd K=>zAG hs hx ⟨p,cc,rfl⟩ ht hd K) K
     · cases h
   · cases h
 · split at h
   · rename_i x y hxs
     split at h
     · rename_i p q hx hy
       rw [zE6 hxs]
       exact zAl h (λd' hd K=>zaq hs hx hy hd K) K
     · cases h
   · cases h
 · split at h
   · rename_i x y hxs
     split at h
     · rename_i p q hx hy
       rw [zE6 hxs]
       exact zAl h (λd' hd K=>zat hs hx hy hd K) K
     · cases h
   · cases h
 · split at h
   · rename_i p hx
     exact zAl h.2 (λd' hd K=>zX8 hs hx (by have h1:=h.1;unfold R64 at h1;omega) hd K) K
   · cases h
 · split at h
   · rename_i p q hx hy
     split at h
     · exact zAl h.2 (λd' hd K=>zIb hs hx hy h.1 hd K) K
     · exact zAl h.2 (λd' hd K=>zH6 hs hx hy h.1 hd K) K
     · exact zAl h.2 (λd' hd K=>zYX hs hx hy h.1 hd K) K
     · exact zAl h (λd' hd K=>zLU hs hx hy hd K) K
     · exact zAl h (λd' hd K=>zJY hs hx hy hd K) K
     · exact zAl h (λd' hd K=>zKt hs hx hy hd K) K
     · exact zAl h (λd' hd K=>zNS hs hx hy hd K) K
     · exact zAl h (λd' hd K=>zCp hs hx hy hd K) K
     · exact zAl h (λd' hd K=>zWb hs hx hy hd K) K
     · cases h
   · rename_i p q hx hy
     split at h
     · rename_i ht;exact zAl h (λd' hd K=>za9 hs hx hy ht hd K) K
     · rename_i ht;exact zAl h (λd' hd K=>zai hs hx hy ht hd K) K
     · cases h
   · rename_i p hx hy
     split at h
     · rename_i ht;exact zAl h (λd' hd K=>zKj hs hx hy ht hd K) K
     · rename_i ht;exact zAl h (λd' hd K=>zKj hs hx hy ht hd K) K
     · rename_i ht;exact zAl h (λd' hd K=>zLP hs hx hy ht hd K) K
     · rename_i ht;exact zAl h (λd' hd K=>zLP hs hx hy ht hd K) K
     · cases h
   · rename_i xs ys hx hy
     obtain ⟨hE,h⟩:=h
     injection hE with hks hg
     cases hb:(zMK xs.toList (zXe xs.toList) && (zMK ys.toList (zXe xs.toList) && zBN P _)) with
     | false=>rw [hb] at h;cases h
     | true =>
       rw [hb] at h
       simp only [cond_true] at h
       simp only [Bool.and_eq_true] at hb
       split at h
       · exact zAl h (λd' hd K=>zbJ (xs:=xs.toList) (ys:=ys.toList) 6 hs hx hy hg hks hb.2.2 (by decide) (zE4 hb.1) (zE4 hb.2.1) hd K) K
       · exact zAl h (λd' hd K=>zYe (xs:=xs.toList) (ys:=ys.toList) 6 hs hx hy hg hks hb.2.2 (by decide) (zE4 hb.1) (zE4 hb.2.1) hd K) K
       · cases h
   · split at h
     · rename_i v hv
       exact zGK hs h (λd'=>zH5 hv hs (λhb=>by cases hb) (λp hp=>by simp [eq1] at hp)) K
     · cases h
   · cases h
 · split at h
   · rename_i v hv
     refine zGK hs h (λd'=>zH5 hv hs (λhb=>by cases hb) (λp hp=>?_)) K
     unfold eq1 at hp
     split at hp
     · split at hp
       · rename_i hB;cases hB
       · cases hp
     · cases hp
   · cases h
def zH9 (n:Nat) (F:List (Nat×Value)) (B:BL) (ann:List Nat) (d:Option Nat) (c:Kt):Prop :=
 match d with
 | some d=>bif Nat.blt d n then c ((d,undef)::F) B ann else False
 | none=>c F B ann
def zPQ (P:Program) (n:Nat) (ops:Array Oper) (F:List (Nat×Value)) (B:BL) (ann:List Nat) (o:Oper) (c:Kt):Prop :=
 match o with
 | ⟨d,op,_,_,_,none⟩=>zHr P n F B ann d op c
 | ⟨d,op,_,_,_,some (j,b)⟩=>match (ops.toList[j]?).bind (·.dst) with
  | some t=>match lk F t with
   | some (.bool true)=>match b with
    | true=>zHr P n F B ann d op c
    | false=>zH9 n F B ann d c
   | some (.bool false)=>match b with
    | false=>zHr P n F B ann d op c
    | true=>zH9 n F B ann d c
   | some (.tuple vs)=>match vs.toList with
    | []=>zH9 n F B ann d c
    | _=>False
   | _=>False
  | none=>False
theorem zJk {op : Op} {c : Kt} {j : Nat} {b : Bool} (h : zH9 n F B ann d c) (hs : St n F w0 S (B.map bkH ++ M1) a w) (hy : (yielded ops a.tmps j == some b) = false)
   (K:∀ F' B' ann' a w,c F' B' ann'→St n F' w0 S (B'.map bkH++M1) a w→wpList P ops Q rest a w):wpList P ops Q (⟨d,op,ty,pos,af,some (j,b)⟩::rest) a w:=by
 simp only [wpList,Region.wanted,hy,Bool.false_eq_true,if_false]
 unfold zH9 at h
 split at h
 · rename_i d
   cases hb:Nat.blt d n with
   | false=>rw [hb] at h;cases h
   | true=>rw [hb] at h;exact K _ _ _ _ _ h (hs.put hb undef)
 · exact K _ _ _ _ _ h hs
theorem zJu {j t : Nat} {v : Value} {oj : Oper} (hs : St n F w0 S (B.map bkH ++ M1) a w) (hj : ops[j]? = some oj) (hoj : oj.dst = some t) (hv : lk F t = some v) : yielded ops a.tmps j = match v with
   | .bool b=>some b
   | _=>none:=by
 have hg:=hs.agr t _ hv
 simp only [yielded,hj,hoj,Option.bind_some,hg]
 cases v<;>rfl
theorem zVr {o : Oper} {c : Kt} (h : zPQ P n ops F B ann o c) (hs : St n F w0 S (B.map bkH ++ M1) a w)
   (K:∀ F' B' ann' a w,c F' B' ann'→St n F' w0 S (B'.map bkH++M1) a w→wpList P ops Q rest a w):wpList P ops Q (o::rest) a w:=by
 unfold zPQ at h
 split at h
 · exact zJv h hs K
 · rename_i d op ty pos af j b
   split at h
   case h_2=>cases h
   rename_i t ht
   obtain ⟨oj,hj,hoj⟩:=zNu ht
   split at h
   · rename_i hv
     have hy:=zJu hs hj hoj hv
     split at h
     · exact zC hs hj hoj hv (zJv h hs K)
     · exact zJk h hs (by rw [hy];rfl) K
   · rename_i hv
     have hy:=zJu hs hj hoj hv
     split at h
     · exact zC hs hj hoj hv (zJv h hs K)
     · exact zJk h hs (by rw [hy];rfl) K
   · rename_i hv
     have hy:=zJu hs hj hoj hv
     split at h
     · exact zJk h hs (by rw [hy];rfl) K
     · cases h
   · cases h
def zQS : List (Nat×Value)→List Nat→(List (Nat×Value)→Prop)→Prop
 | _,[],c=>c []
 | F,d::r,c=>match lk F d with
  | some v=>zQS F r λl=>c ((d,v)::l)
  | none=>False
theorem zGq : ∀ {ds:List Nat} {c:List (Nat×Value)→Prop},zQS F ds c→∃ F',Sub F F'∧c F'
 | [],c,h=>⟨[],.n,h⟩
 | d::r,c,h=>by
  unfold zQS at h
  split at h
  ·rename_i v hv
   obtain ⟨F',h1,h2⟩:=zGq (ds:=r) h
   exact ⟨(d,v)::F',.c hv h1,h2⟩
  ·cases h
def zVc : BL→List HA→(List HA→Prop)→Prop
 | [],M,c=>c M
 | (g,cs,t)::r,M,c=>zVc r M λl=>c (blk g cs t::l)
theorem zG3 {M:List HA}:∀ {B:BL} {c:List HA→Prop},zVc B M c→c (B.map bkH++M)
 | [],_,h=>h
 | (g,cs,t)::r,c,h=>zG3 (B:=r) (c:=λl=>c (blk g cs t::l)) h
def zPq (P:Program) (Q:Exit→Act→World→Prop) (n:Nat) (w0:World) (S:List Nat) (M1:List HA) (live:List Nat):Nat→Nat→List Nat→Pl→List (Nat×Value)→BL→Prop
 | 0,k,_,pl,F,B=>match k with
  | 0=>zQS F live λF'=>zVc B M1 λM=>∀ a w,St n F' w0 S M a w→G P Q pl a w
  | _+1=>False
 | f+1,k,ann,pl,F,B=>match zcG pl with
  | some pl'=>zPq P Q n w0 S M1 live f k ann pl' F B
  | none=>match k with
   | 0=>zQS F live λF'=>zVc B M1 λM=>∀ a w,St n F' w0 S M a w→G P Q pl a w
   | k+1=>match pl with
    | .mid ops (o::l) fr=>zPQ P n ops F B ann o λF' B' ann'=>zPq P Q n w0 S M1 live f k ann' (.mid ops l fr) F' B'
    | .code (.cond x c d) fr=>match evo F x with
     | some (.bool true)=>zPq P Q n w0 S M1 live f k ann (.code c fr) F B
     | some (.bool false)=>zPq P Q n w0 S M1 live f k ann (.code d fr) F B
     | _=>False
    | _=>False
theorem zIl {live:List Nat}:∀ {f k:Nat} {ann:List Nat} {pl:Pl} {F:List (Nat×Value)} {B:BL} {a:Act} {w:World},zPq P Q n w0 S M1 live f k ann pl F B→St n F w0 S (B.map bkH++M1) a w→G P Q pl a w
 | 0,k,ann,pl,F,B,a,w,h,hs=>by
  cases k with
  | zero =>
   obtain ⟨F',h1,h2⟩:=zGq h
   exact zG3 h2 a w (hs.sub h1)
  | succ k=>exact h.elim
 | f+1,k,ann,pl,F,B,a,w,h,hs=>by
  unfold zPq at h
  split at h
  ·rename_i pl' hp
   exact zXX hp (zIl h hs)
  ·split at h
   ·obtain ⟨F',h1,h2⟩:=zGq h
    exact zG3 h2 a w (hs.sub h1)
   ·split at h
    ·rename_i ops o l fr
     exact zVr h hs λF' B' ann' a w h hs=>zIl h hs
    ·split at h
     ·rename_i hx;exact wp_cond_split (hs.ev hx) (λ_=>zIl h hs) (λh=>by cases h)
     ·rename_i hx;exact wp_cond_split (hs.ev hx) (λh=>by cases h) (λ_=>zIl h hs)
     ·exact h.elim
    ·exact h.elim
theorem goF {pl:Pl} {Bs:BL} (f k:Nat) (ann live:List Nat) (tk:zDu M Bs M1) (h:zPq P Q n w0 S M1 live f k ann pl F Bs):∀ a w,St n F w0 S M a w→G P Q pl a w:=λ_ _ hs=>zIl h (hs.permM tk.perm)
theorem zPd {ops:Array Oper} {l:List Oper} {fr:List Fr} {Bs:BL} (f k:Nat) (ann live:List Nat) (tk:zDu M Bs M1) (h:zPq P Q n w0 S M1 live f k ann (.mid ops l fr) F Bs):∀ a w,St n F w0 S M a w→wpList P ops (stk P Q fr) l a w:=goF (pl:=.mid ops l fr) f k ann live tk h
theorem zcR {e:Exit} {fr:List Fr} {Bs:BL} (f k:Nat) (ann live:List Nat) (tk:zDu M Bs M1) (h:zPq P Q n w0 S M1 live f k ann (.ex e fr) F Bs):∀ a w,St n F w0 S M a w→stk P Q fr e a w:=goF (pl:=.ex e fr) f k ann live tk h
theorem go {pl:Pl} {Bs:BL} (k:Nat) (ann live:List Nat) (tk:zDu M Bs M1) (h:zPq P Q n w0 S M1 live 2000 k ann pl F Bs):∀ a w,St n F w0 S M a w→G P Q pl a w:=goF 2000 k ann live tk h
theorem goL {ops:Array Oper} {l:List Oper} {fr:List Fr} {Bs:BL} (k:Nat) (ann live:List Nat) (tk:zDu M Bs M1) (h:zPq P Q n w0 S M1 live 2000 k ann (.mid ops l fr) F Bs):∀ a w,St n F w0 S M a w→wpList P ops (stk P Q fr) l a w:=zPd 2000 k ann live tk h
theorem goE {e:Exit} {fr:List Fr} {Bs:BL} (k:Nat) (ann live:List Nat) (tk:zDu M Bs M1) (h:zPq P Q n w0 S M1 live 2000 k ann (.ex e fr) F Bs):∀ a w,St n F w0 S M a w→stk P Q fr e a w:=zcR 2000 k ann live tk h
theorem zG {f:FuncId} {fn:Func} {c:Code} {args:List Value} {F0:List (Nat×Value)} {R:Ending→World→Prop} (hf:P.funcs[f]? = some fn) (hb:fn.body=some c) (hn:fn.ntmps=n) (hle:Nat.ble args.length n=true) (hini:Ini 0 args F0) (hM:Mem w S M w)
 (h:∀ a w',St n F0 w S M a w'→G P (bodyPost P fn R) (.code c []) a w'):Calls P f args.toArray w R:=enter hf hb hn hle hini hM h
variable {k : List Fr}
class TF (b:Bool) (p q:outParam Prop):Prop where
 t:b=true→p
 f:b=false→q
instance (priority:=low) {b:Bool}:TF b (b=true) (b=false):=⟨id,id⟩
instance {p:Prop} [Decidable p]:TF (decide p) p (¬p):=⟨of_decide_eq_true,of_decide_eq_false⟩
instance {b:Bool} {p q:Prop} [h:TF b p q]:TF (!b) q p:=⟨λe=>h.f (by simpa using e),λe=>h.t (by simpa using e)⟩
instance {x y:Int}:TF (x==y) (x=y) (x≠y):=⟨eq_of_beq,λe h=>by subst h;simp at e⟩
theorem zZA {c:Operand} {x y:Code} {t:Bool} (hc:evo F c=some (.bool t)) (ht:t=true→∀ a w,St n F w0 S M a w→G P Q (.code x k) a w) (hf:t=false→∀ a w,St n F w0 S M a w→G P Q (.code y k) a w):∀ a w,St n F w0 S M a w→G P Q (.code (.cond c x y) k) a w:=λa w hs=>zYq hs hc (λh=>ht h a w hs) λh=>hf h a w hs
theorem ifG {c:Operand} {x y:Code} {t:Bool} {p q:Prop} [TF t p q] (hc:evo F c=some (.bool t)) (ht:p→∀ a w,St n F w0 S M a w→G P Q (.code x k) a w) (hf:q→∀ a w,St n F w0 S M a w→G P Q (.code y k) a w):∀ a w,St n F w0 S M a w→G P Q (.code (.cond c x y) k) a w:=zZA hc (λh=>ht (TF.t h)) λh=>hf (TF.f h)
theorem zCC {c:Code} (I:Nat→Act→World→Prop) {m:Nat} (h0:I m a w) (step:∀ m a w,I m a w→G P Q (.code c (.th (λa' w'=>∃ m',m'<m∧I m' a' w')::k)) a w):G P Q (.code (.loop c) k) a w:=zJw I h0 step
theorem zZx {c:Code} (I:Act→World→Prop) (h:G P Q (.code c (.th I::k)) a w) (h2:∀ a w,I a w→G P Q (.ex .normal k) a w):G P Q (.code c k) a w:=zaQ I h h2
theorem zCA {c:Code} (m:Nat) (h:G P Q (.code c (.th (Code.rounds P c (stk P Q k) m)::k)) a w):G P Q (.code (.loop c) k) a w:=wp_loop_rounds (m+1) h
theorem zAL {c:Code} {m:Nat} (h:G P Q (.code c (.th (Code.rounds P c (stk P Q k) m)::k)) a w):G P Q (.ex .normal (.th (Code.rounds P c (stk P Q k) (m+1))::k)) a w:=h
inductive FK2 where
 | i (k:IntKind)
 | b
 | s (size:Nat) (ks:List FK2)
mutual
inductive OneK (W:World):Value→FK2→Prop
 | i {k z}:(Lit.int k z).wf=true→OneK W (.int k z) (.i k)
 | b {x}:OneK W (.bool x) .b
 | s {a len cap size ks} {f:Nat→List Value}:(∀ i,i<len→AllK W (f i) ks)→Rd W [] (.slice a len cap) size len ((List.range len).flatMap f)→OneK W (.slice a len cap) (.s size ks)
inductive AllK (W:World):List Value→List FK2→Prop
 | n:AllK W [] []
 | c {v k vs ks}:OneK W v k→AllK W vs ks→AllK W (v::vs) (k::ks)
end
variable {W : World}
theorem AllK.app {a b:List Value} {k l:List FK2} (h:AllK W a k) (h2:AllK W b l):AllK W (a++b) (k++l):=by
 induction a generalizing k with
 | nil=>cases h;exact h2
 | cons v a ih =>
  cases h with
  | c h1 h3=>exact .c h1 (ih h3)
theorem AllK.length : ∀ {a:List Value} {k:List FK2},AllK W a k→a.length=k.length
 | [],_,h=>by cases h;rfl
 | v::a,_,h=>by cases h with | c h1 h2=>simp [AllK.length h2]
section
variable (P : Program)
def zIc (K:TypeId→Option (List FK2)):Nat→List Field→Option (List FK2)
 | _,[]=>some []
 | off,f::r=>(K f.type).bind λk=>if f.offset=off∧P.cellsOf f.type=k.length then (zIc K (off+k.length) r).map λl=>k++l else none
def zHn (k:List FK2):Nat→List FK2
 | 0=>[]
 | n+1=>k++zHn k n
def zF9 : Nat→TypeId→Option (List FK2)
 | 0,_=>none
 | n+1,t=>match P.underlying t with
  | some (.int k)=>some [.i k]
  | some .bool=>some [.b]
  | some (.slice e)=>(zF9 n e).bind λk=>if P.cellsOf e=k.length∧0<k.length then some [.s k.length k] else none
  | some (.struct fs)=>(zIc P (zF9 n) 0 fs.toList).bind λl=>if P.cellsOf t=l.length then some l else none
  | some (.array m e)=>(zF9 n e).bind λk=>if P.cellsOf e=k.length∧P.cellsOf t=(zHn k m).length then some (zHn k m) else none
  | _=>none
end
section
variable {H : Type} {enc : TypeId × Value → H} {P : Program} {t e : TypeId} {a : Option Addr} {len cap : Nat}
theorem zPO {K : TypeId → Option (List FK2)} {fuel : Nat} {cs : List Value} (IH : ∀ t ks, K t = some ks → ∀ cs x, DataW.trod enc P W 0 (fun _ => true) true fuel t cs = some x → AllK W cs ks) :
   ∀ (fs:List Field) (off:Nat) (ks:List FK2) (xs:List (DataW H×List MemPlace)),zIc P K off fs=some ks →
     (fs.mapM λf=>DataW.trod enc P W 0 (λ_=>true) true fuel f.type ((cs.drop f.offset).take (P.cellsOf f.type)))=some xs→cs.length=off+ks.length→AllK W (cs.drop off) ks:=by
 intro fs
 induction fs with
 | nil =>
   intro off ks xs h _ hl
   simp only [zIc,Option.some.injEq] at h
   subst h
   rw [List.drop_of_length_le (by simp at hl;omega)]
   exact .n
 | cons f r ih =>
   intro off ks xs h hx hl
   simp only [zIc,Option.bind_eq_some_iff] at h
   obtain ⟨k,hk,h⟩:=h
   split at h
   · rename_i hc
     obtain ⟨hoff,hck⟩:=hc
     simp only [Option.map_eq_some_iff] at h
     obtain ⟨l,hl2,rfl⟩:=h
     simp only [List.mapM_cons,Option.bind_eq_bind,Option.bind_eq_some_iff] at hx
     obtain ⟨y,hy,ys,hys,_⟩:=hx
     have h1:=IH _ _ hk _ _ hy
     rw [hoff,hck] at h1
     have h2:=ih (off+k.length) l ys hl2 hys (by simp at hl;omega)
     have h3:=h1.app h2
     rw [← List.drop_drop,List.take_append_drop] at h3
     exact h3
   · cases h
theorem zRt {e : TypeId} {fuel : Nat} {cs : List Value} {k : List FK2} (IH : ∀ cs x, DataW.trod enc P W 0 (fun _ => true) true fuel e cs = some x → AllK W cs k) (hk : P.cellsOf e = k.length) :
   ∀ (n i:Nat) (xs:List (DataW H×List MemPlace)),((List.range' i n).mapM λi=>DataW.trod enc P W 0 (λ_=>true) true fuel e ((cs.drop (i*P.cellsOf e)).take (P.cellsOf e)))=some xs→cs.length=i*k.length+(zHn k n).length→AllK W (cs.drop (i*k.length)) (zHn k n):=by
 intro n
 induction n with
 | zero =>
   intro i xs _ hl
   rw [List.drop_of_length_le (by simp [zHn] at hl;omega)]
   exact .n
 | succ n ih =>
   intro i xs hx hl
   simp only [List.range'_succ,List.mapM_cons,Option.bind_eq_bind,Option.bind_eq_some_iff] at hx
   obtain ⟨y,hy,ys,hys,_⟩:=hx
   have h1:=IH _ _ hy
   rw [hk] at h1
   have h2:=ih (i+1) ys hys (by simp only [zHn,List.length_append] at hl;rw [hl,Nat.add_mul];omega)
   have h3:=h1.app h2
   rw [Nat.add_mul,Nat.one_mul,← List.drop_drop,List.take_append_drop] at h3
   exact h3
theorem zOm {fuel size : Nat} {Pr : List Value → Prop} {x : DataW H × List MemPlace} {cs : List Value} (ht : P.underlying t = some (.slice e)) (hc : P.cellsOf e = size) (hpos : 0 < size) (hlen' : ∀ cs, Pr cs → cs.length = size)
   (IH:∀ fuel cs x,DataW.trod enc P W 0 (λ_=>true) true fuel e cs=some x→Pr cs) (hf:DataW.trod enc P W 0 (λ_=>true) true fuel t cs=some x) :
   ∃ a len cap,cs=[.slice a len cap]∧∃ f:Nat→List Value,(∀ i,i<len→Pr (f i))∧Rd W [] (.slice a len cap) size len ((List.range len).flatMap f):=by
 rcases Go.Deep.open_slice ht hf with ⟨hcs,hx⟩ | ⟨x,l,c,m,n',D,Pl,hcs,_,hl,hm,hmm,hx,hel⟩
 · exact ⟨none,0,0,hcs,λ_=>[],by simp,zQu W [] size⟩
 · refine ⟨some x,l,c,hcs,?_⟩
   have hmc:m=c:=by simpa using hmm
   obtain ⟨f,hfc⟩:=Go.Deep.choose_lt (α:=List Value) (p:=λi v=>W.cells? 0 (x.add (i*P.cellsOf e)) (P.cellsOf e)=some v∧DataW.trod enc P W 0 (λ_=>true) true n' e v=some (D i,Pl i)) hel
   have hall:∀ i,i<l→Pr (f i):=λi hi=>IH n' (f i) _ (hfc i (by omega)).2
   have hflen:∀ i,i<l→(f i).length=size:=λi hi=>hlen' _ (hall i hi)
   have hlen:∀ k,k≤l→((List.range k).flatMap f).length=k*size:=by
     intro k
     induction k with
     | zero=>simp
     | succ k ih =>
       intro hk
       rw [List.range_succ,List.flatMap_append,List.length_append,ih (by omega)]
       simp [hflen k (by omega),Nat.add_mul]
   have hget:∀ k,k≤l→∀ j u,((List.range k).flatMap f)[j]? = some u→W.cell? (x.add j)=some u:=by
     intro k
     induction k with
     | zero=>intro _ j u hu;simp at hu
     | succ k ih =>
       intro hk j u hu
       rw [List.range_succ,List.flatMap_append] at hu
       by_cases hj:j<k*size
       · rw [List.getElem?_append_left (by rw [hlen k (by omega)];exact hj)] at hu
         exact ih (by omega) j u hu
       · rw [List.getElem?_append_right (by rw [hlen k (by omega)];omega),hlen k (by omega)] at hu
         simp only [List.flatMap_cons,List.flatMap_nil,List.append_nil] at hu
         obtain ⟨_,_,hcell⟩:=World.cells?_some (hfc k (by omega)).1
         rw [hc] at hcell
         have hjl:j-k*size<size:=by
           have:=(List.getElem?_eq_some_iff.1 hu).1
           rw [hflen k (by omega)] at this
           exact this
         have:=hcell (j-k*size) hjl
         rw [zMi,show k*size+(j-k*size)=j by omega] at this
         rw [this]
         exact hu
   refine ⟨f,hall,⟨⟨_,c,rfl,hl,hm⟩,hlen l (Nat.le_refl _),λh0=>⟨x,c,rfl,by simp,?_,λj u hu=>hget l (Nat.le_refl _) j u hu⟩⟩⟩
   have hl0:0<((List.range l).flatMap f).length:=by
     rw [hlen l (Nat.le_refl _)]
     exact Nat.mul_pos h0 hpos
   have:=hget l (Nat.le_refl _) 0 _ (List.getElem?_eq_getElem hl0)
   exact World.block_lt_of_cell? W (x.add 0) this
theorem zLa : ∀ (n:Nat) (t:TypeId) (ks:List FK2),zF9 P n t=some ks→∀ (fuel:Nat) (cs:List Value) (x:DataW H×List MemPlace),DataW.trod enc P W 0 (λ_=>true) true fuel t cs=some x→AllK W cs ks:=by
 intro n
 induction n with
 | zero=>intro t ks h;simp [zF9] at h
 | succ n ih =>
  intro t ks h fuel cs x hx
  cases fuel with
  | zero=>simp [DataW.trod] at hx
  | succ fuel =>
   simp only [zF9] at h
   split at h
   ·rename_i k hu
    simp only [Option.some.injEq] at h
    subst h
    obtain ⟨m,rfl,rfl,hw⟩:=DataW.trod_int hu hx
    exact .c (.i hw) .n
   ·rename_i hu
    simp only [Option.some.injEq] at h
    subst h
    obtain ⟨m,rfl,rfl⟩:=DataW.trod_bool hu hx
    exact .c .b .n
   ·rename_i e hu
    simp only [Option.bind_eq_some_iff] at h
    obtain ⟨k,hk,h⟩:=h
    split at h
    ·rename_i hc
     simp only [Option.some.injEq] at h
     subst h
     obtain ⟨a,len,cap,rfl,f,hf,hr⟩:=zOm (Pr:=λcs=>AllK W cs k) hu hc.1 hc.2 (λcs h=>h.length) (λfuel cs x h=>ih e k hk fuel cs x h) hx
     exact .c (.s hf hr) .n
    ·cases h
   ·rename_i fs hu
    simp only [Option.bind_eq_some_iff] at h
    obtain ⟨l,hl,h⟩:=h
    split at h
    ·rename_i hc
     simp only [Option.some.injEq] at h
     subst h
     unfold DataW.trod at hx
     rw [hu] at hx
     simp only at hx
     split at hx
     ·rename_i hcl
      simp only [Option.map_eq_some_iff] at hx
      obtain ⟨xs,hxs,_⟩:=hx
      exact zPO (λt ks hk cs x hx=>ih t ks hk fuel cs x hx) fs.toList 0 l xs hl hxs (by omega)
     ·cases hx
    ·cases h
   ·rename_i m e hu
    simp only [Option.bind_eq_some_iff] at h
    obtain ⟨k,hk,h⟩:=h
    split at h
    ·rename_i hc
     simp only [Option.some.injEq] at h
     subst h
     unfold DataW.trod at hx
     rw [hu] at hx
     simp only at hx
     split at hx
     ·rename_i hcl
      simp only [Option.map_eq_some_iff] at hx
      obtain ⟨xs,hxs,_⟩:=hx
      rw [List.range_eq_range'] at hxs
      have:=zRt (cs:=cs) (λcs x hx=>ih e k hk fuel cs x hx) hc.1 m 0 xs hxs (by omega)
      simpa using this
     ·cases hx
    ·cases h
   ·cases h
theorem zRN {m:Nat} {fs:Array Field} {ks:List FK2} {v:Value} {dd:DataW H} {p:List MemPlace} (hu:P.underlying t=some (.struct fs)) (hk:zF9 P m t=some ks) (hv:Value.okWide P W .any 0 t v) (h:DataW.Trod enc P W 0 (λ_=>true) true t v dd p):∃ cs:List Value,v = .agg cs.toArray∧AllK W cs ks:=by
 obtain ⟨cs,rfl,_⟩:=okWide_struct hu hv
 obtain ⟨fuel,hf⟩:=h
 exact ⟨cs.toList,by simp,zLa m t ks hk fuel _ _ hf⟩
theorem zMx {m : Nat} {size : Nat} {ks : List FK2} {dd : DataW H} {p : List MemPlace} (hu : P.underlying t = some (.slice e)) (hk : zF9 P m t = some [.s size ks]) (h : DataW.Trod enc P W 0 (fun _ => true) true t (.slice a len cap) dd p) :
   ∃ f:Nat→List Value,(∀ i,i<len→AllK W (f i) ks)∧Rd W [] (.slice a len cap) size len ((List.range len).flatMap f):=by
 obtain ⟨fuel,hf⟩:=h
 have:=zLa m t _ hk fuel _ _ hf
 simp only [Value.cells] at this
 cases this with
 | c h1 h2 =>
   cases h1 with
   | s h3 h4=>exact ⟨_,h3,h4⟩
end
def FK.up : FK→FK2
 | .i k=>.i k
 | .b=>.b
theorem AllK.flat : ∀ {cs:List Value} {ks:List FK},AllK W cs (ks.map FK.up)→zFe cs ks
 | [],[],_=>.n
 | [],k::ks,h=>by cases h
 | v::cs,[],h=>by cases h
 | v::cs,k::ks,h=>by
  cases h with
  | c h1 h2 =>
   refine .c ?_ (AllK.flat h2)
   cases k with
   | i k=>cases h1 with | i w=>exact .i w
   | b=>cases h1;exact .b
theorem AllK.split {c:List Value} {k:FK2} {ks:List FK2} (h:AllK W c (k::ks)):∃ u us,c=u::us∧OneK W u k∧AllK W us ks:=by
 cases h with
 | c h1 h2=>exact ⟨_,_,rfl,h1,h2⟩
theorem AllK.none {c:List Value} (h:AllK W c []):c=[]:=by cases h;rfl
theorem OneK.i64 {v:Value} (h:OneK W v (.i .i64)):∃ z:Int,v = .int .i64 z ∧ -9223372036854775808≤z∧z≤9223372036854775807:=by
 cases h with
 | i w=>exact ⟨_,rfl,zMD w⟩
theorem OneK.sl {v:Value} {size:Nat} {ks:List FK2} (h:OneK W v (.s size ks)):∃ (len:Nat) (f:Nat→List Value),(∀ i,i<len→AllK W (f i) ks)∧Rd W [] v size len ((List.range len).flatMap f):=by
 cases h with
 | s h1 h2=>exact ⟨_,_,h1,h2⟩
variable {P : Program} {ops : Array Oper} {Q : Exit → Act → World → Prop} {n : Nat} {F : List (Nat × Value)} {w0 : World} {S : List Nat} {M M0 : List HA} {a : Act} {w : World} {Γ : Type}
def zGX (k:Nat):Value→Value
 | .agg cs=>cs.getD k undef
 | _=>undef
def zXx (us:Nat→Γ) (i:Nat) (g:Γ):Nat→Γ:=λk=>bif k==i then g else us k
theorem zZS {us:Nat→Γ} {i k:Nat} {g:Γ} (h:k≠i):zXx us i g k=us k:=by
 unfold zXx
 rw [beq_eq_false_iff_ne.2 h];rfl
inductive zKv (us us':Nat→Γ):List (List Nat)→List OS→List OS→Prop
 | n:zKv us us' [] [] []
 | c {g gs D D' ds ds'}:((∀ j∈g,us j=us' j)→D=D')→zKv us us' gs ds ds'→zKv us us' (g::gs) (D::ds) (D'::ds')
theorem zKv.get {us us':Nat→Γ} {gs:List (List Nat)} {ds ds':List OS} (h:zKv us us' gs ds ds'):∀ k,(∀ j∈gs.getD k [],us j=us' j)→zAa ds k=zAa ds' k:=by
 induction h with
 | n=>intro k _;rfl
 | c h1 _ ih =>
  intro k hk
  cases k with
  | zero=>exact h1 (by simpa using hk)
  | succ k=>exact ih k (by simpa using hk)
def zS7 (D:OS):List HA×List Nat×Option Value:=(D.X,D.use,D.was)
theorem zFj {ds ds':List OS} (h:ds.map zS7=ds'.map zS7) (k:Nat):(zAa ds k).X=(zAa ds' k).X∧(zAa ds k).use=(zAa ds' k).use∧(zAa ds k).was=(zAa ds' k).was:=by
 have h1:(ds.map zS7)[k]? = (ds'.map zS7)[k]?:=by rw [h]
 rw [List.getElem?_map,List.getElem?_map] at h1
 unfold zAa
 cases h2:ds[k]? <;> cases h3:ds'[k]? <;> rw [h2,h3] at h1
 ·exact ⟨rfl,rfl,rfl⟩
 ·cases h1
 ·cases h1
 ·simp only [Option.map_some,Option.some.injEq,zS7,Prod.mk.injEq] at h1
  exact h1
structure GOk (l:List Oper) (Ds:(Nat→Γ)→List OS) (gd:List (List Nat)):Prop where
 fx:∀ us us',(Ds us).map zS7=(Ds us').map zS7
 same:∀ us us',zKv us us' gd (Ds us) (Ds us')
 ok:∀ k j,j∈gd.getD k []→j=k∨TW l k j
theorem zbR {l:List Oper} {Ds:(Nat→Γ)→List OS} {gd:List (List Nat)} (fx:∀ us us',(Ds us).map zS7=(Ds us').map zS7) (same:∀ us us',zKv us us' gd (Ds us) (Ds us')) (h:(gd.zipIdx.all λx=>x.1.all λj=>Nat.beq j x.2 || twB l j l.length x.2)=true):GOk l Ds gd:=by
 refine ⟨fx,same,λk j hj=>?_⟩
 rw [List.all_eq_true] at h
 rcases Nat.lt_or_ge k gd.length with hk | hk
 ·have h1:=h (gd[k],k) (by rw [List.mem_zipIdx_iff_getElem?];simp [hk])
  rw [List.all_eq_true] at h1
  have h2:=h1 j (by simpa [List.getD_eq_getElem?_getD,List.getElem?_eq_getElem hk] using hj)
  simp only [Bool.or_eq_true] at h2
  rcases h2 with h2 | h2
  ·exact .inl (Nat.eq_of_beq_eq_true h2)
  ·exact .inr (zJ _ _ h2)
 ·rw [List.getD_eq_getElem?_getD,List.getElem?_eq_none hk] at hj
  simp at hj
theorem zRG {l:List Oper} {Ds:(Nat→Γ)→List OS} {gd:List (List Nat)} (G:GOk l Ds gd) {us us':Nat→Γ} {ls:Nat→Bool} {vs:Nat→Value} (hcl:∀ i,ls i=true→∀ k,TW l i k→ls k=true) (hd:∀ j,ls j=true→us j=us' j):zFd (Ds us) ls vs=zFd (Ds us') ls vs:=by
 funext i
 have ht:zH7 (Ds us) ls i↔zH7 (Ds us') ls i:=by
  constructor<;>rintro ⟨j,hj,hij⟩<;>refine ⟨j,hj,?_⟩
  ·rw [← (zFj (G.fx us us') j).2.1];exact hij
  ·rw [(zFj (G.fx us us') j).2.1];exact hij
 unfold zFd
 by_cases h:ls i=true
 ·rw [if_pos h,if_pos h]
  have he:zAa (Ds us) i=zAa (Ds us') i:=(G.same us us').get i λj hj=>hd j ((G.ok i j hj).elim (λe=>e ▸ h) (hcl i h j))
  rw [he]
  by_cases h2:zH7 (Ds us) ls i
  ·rw [if_pos h2,if_pos (ht.1 h2)]
  ·rw [if_neg h2,if_neg (λh=>h2 (ht.2 h))]
 ·rw [if_neg h,if_neg h,(zFj (G.fx us us') i).1]
theorem zN4.trans {l:List Oper} {Ds:(Nat→Γ)→List OS} {gd:List (List Nat)} (G:GOk l Ds gd) {us us':Nat→Γ} {listed:Array Bool} {vs:Nat→Value} (h:zN4 l n F w0 S M0 (Ds us) listed vs a w) (hd:∀ j,listed.getD j false=true→us j=us' j):zN4 l n F w0 S M0 (Ds us') listed vs a w:=by
 have hc:=zRG G (vs:=vs) (ls:=λi=>listed.getD i false) h.closed hd
 have he:∀ i,listed.getD i false=true→zAa (Ds us) i=zAa (Ds us') i:=λi hi=>(G.same us us').get i λj hj=>hd j ((G.ok i j hj).elim (λe=>e ▸ hi) (h.closed i hi j))
 refine ⟨by rw [← hc];exact h.st,h.sz,λi hil hi=>?_,h.closed,λj hj hl u hu=>h.old j hj hl u (by rw [(zFj (G.fx us us') j).2.2];exact hu)⟩
 rw [← he i hi]
 exact h.fact i hil hi
def zbG (P:Program) (l:List Oper) (n:Nat) (F:List (Nat×Value)) (w0:World) (S:List Nat) (M0:List HA) (Ds:(Nat→Γ)→List OS) (us:Nat→Γ) (i:Nat) (o:Oper):Prop :=
 ∀ a w R rest vs,Mem w0 S (zDV (zAa (Ds us) i) (Ds us) vs++(M0++rest)) w→St n (F++R) w (zN (zDV (zAa (Ds us) i) (Ds us) vs)) (zDV (zAa (Ds us) i) (Ds us) vs) a w→(∀ k,TW l i k→zTR l (Ds us) rest vs i k a)→(∀ j,TW l j i→(∀ h∈(zAa (Ds us) j).X,h∈rest)∧∀ u,(zAa (Ds us) j).was=some u→zBz l j u a) →
  wpList P l.toArray (λe a' w'=>e = .normal∧∃ g:Γ,RG n (F++R) a w o (zDV (zAa (Ds us) i) (Ds us) vs) (zAa (Ds (zXx us i g)) i) i vs a' w') [o] a w
inductive zFw (P:Program) (l:List Oper) (n:Nat) (F:List (Nat×Value)) (w0:World) (S:List Nat) (M0:List HA) (Ds:(Nat→Γ)→List OS) (us:Nat→Γ):Nat→List Oper→Prop
 | n {i}:zFw P l n F w0 S M0 Ds us i []
 | c {i o r}:zTV P l n F w0 S M0 (Ds us) i o (zAa (Ds us) i)→zFw P l n F w0 S M0 Ds us (i+1) r→zFw P l n F w0 S M0 Ds us i (o::r)
 | g {i o r}:zbG P l n F w0 S M0 Ds us i o→zFw P l n F w0 S M0 Ds us (i+1) r→zFw P l n F w0 S M0 Ds us i (o::r)
theorem zFw.get {l r:List Oper} {Ds:(Nat→Γ)→List OS} {us:Nat→Γ} {j:Nat} (h:zFw P l n F w0 S M0 Ds us j r):∀ (i:Nat) (o:Oper),r[i]? = some o→zTV P l n F w0 S M0 (Ds us) (j+i) o (zAa (Ds us) (j+i))∨zbG P l n F w0 S M0 Ds us (j+i) o:=by
 induction h with
 | n=>intro i o h;simp at h
 | c h _ ih =>
  intro i o hi
  cases i with
  | zero=>simp only [List.getElem?_cons_zero,Option.some.injEq] at hi;subst hi;exact .inl h
  | succ i=>have:=ih i o (by simpa using hi);rwa [Nat.add_right_comm _ 1 i] at this
 | g h _ ih =>
  intro i o hi
  cases i with
  | zero=>simp only [List.getElem?_cons_zero,Option.some.injEq] at hi;subst hi;exact .inr h
  | succ i=>have:=ih i o (by simpa using hi);rwa [Nat.add_right_comm _ 1 i] at this
theorem zPl {l:List Oper} {Ds:(Nat→Γ)→List OS} {gd:List (List Nat)} (G:GOk l Ds gd) {us us':Nat→Γ} {vs:Nat→Value} {i:Nat} (hu:∀ k,k∈(zAa (Ds us) i).use→TW l i k) (hd:∀ k,TW l i k→zAa (Ds us) k=zAa (Ds us') k):zDV (zAa (Ds us) i) (Ds us) vs=zDV (zAa (Ds us') i) (Ds us') vs:=by
 unfold zDV
 rw [(zFj (G.fx us us') i).1,← (zFj (G.fx us us') i).2.1]
 congr 1
 rw [List.flatMap_def,List.flatMap_def]
 congr 1
 refine List.map_congr_left λk hk=>?_
 rw [hd k (hu k hk)]
theorem zMZ {l : List Oper} {Ds : (Nat → Γ) → List OS} {gd : List (List Nat)} (G : GOk l Ds gd) (hg : zHQ F l = true) (hu : ∀ us, zHH l ((Ds us).map (·.use)) ((Ds us).map (·.dep)) = true) (hst : ∀ us, zFw P l n F w0 S M0 Ds us 0 l)
   (hfin:∀ listed vs us a w,zN4 l n F w0 S M0 (Ds us) listed vs a w→(∀ i,i<l.length→listed.getD i false=true)→Q .normal a w) :
   ∀ (fuel:Nat) (listed:Array Bool) (vs:Nat→Value) (us:Nat→Γ) (a:Act) (w:World),listed.toList.count false≤fuel→zN4 l n F w0 S M0 (Ds us) listed vs a w→wpAny P .any l.toArray Q fuel listed a w:=by
 obtain ⟨hfw,hbase,hdis⟩:=zFD hg
 have hend:∀ (listed:Array Bool) (vs:Nat→Value) (us:Nat→Γ) (a:Act) (w:World),zN4 l n F w0 S M0 (Ds us) listed vs a w→Region.ready .any l.toArray listed=[]→Q .normal a w:=λlisted vs us a w h hr =>
   hfin listed vs us a w h λi hi=>zIA hfw (by simpa using h.sz) hr i hi
 intro fuel
 induction fuel with
 | zero =>
   intro listed vs us a w hc h
   have hr:Region.ready .any l.toArray listed=[]:=by
     rw [List.eq_nil_iff_forall_not_mem]
     intro j hj
     obtain ⟨h1,o,ho,_⟩:=mem_ready.1 hj
     have hlt:j<listed.size:=by rw [h.sz];simpa using (Array.getElem?_eq_some_iff.1 ho).1
     have h2:listed[j]=false:=by simpa [Array.getD_eq_getD_getElem?,Array.getElem?_eq_getElem hlt] using h1
     have h3:false∈listed.toList:=by rw [← h2];simp
     have:=List.count_pos_iff.2 h3
     omega
   exact ⟨hr,hend listed vs us a w h hr⟩
 | succ fuel ih =>
   intro listed vs us a w hc h
   refine ⟨hend listed vs us a w h,λi hi=>?_⟩
   obtain ⟨h1,o,ho,hall⟩:=mem_ready.1 hi
   have ho':l[i]? = some o:=by simpa using ho
   have hlt:i<listed.size:=by rw [h.sz];simpa using (Array.getElem?_eq_some_iff.1 ho).1
   have h2:listed[i]=false:=by simpa [Array.getD_eq_getD_getElem?,Array.getElem?_eq_getElem hlt] using h1
   have hno:listed.getD i false=false:=by simp [Array.getD_eq_getD_getElem?,Array.getElem?_eq_getElem hlt,h2]
   have hall1:∀ k,zPD l i k→listed.getD k false=true:=by
     rintro k ⟨o',ho2,e,he,hb,rfl⟩
     rw [ho'] at ho2
     injection ho2 with ho2
     subst ho2
     exact hall e he hb
   have hall':∀ k,TW l i k→listed.getD k false=true:=by
     intro k hk
     cases hk with
     | one h1=>exact hall1 _ h1
     | more h1 h2=>exact h.closed _ (hall1 _ h1) _ h2
   obtain ⟨hback,hknd,hkr,hown⟩:=h.own hg (hu us) ho' hno hall'
   have hmem:=h.st.mem.perm ((List.Perm.append_left M0 ((zEx List.nodup_range (i::(zAa (Ds us) i).use) _ hknd hkr).trans (List.Perm.append_right _ (by rw [hown])))).trans zGL)
   have hil:i<l.length:=by simpa using (Array.getElem?_eq_some_iff.1 ho).1
   have hnd:=hmem.nd
   rw [zAs] at hnd
   have htold:∀ k,TW l i k→zTR l (Ds us) ((List.range l.length).flatMap λj=>if j∈i::(zAa (Ds us) i).use then [] else zFd (Ds us) (λi=>listed.getD i false) vs j) vs i k a:=λk hwk=>by
     have hlk:=hall' _ hwk
     have hke:k<i:=hback i _ hwk
     obtain ⟨f1,f2⟩:=h.fact k (by omega) hlk
     refine ⟨f1,f2,λhfree y hy=>?_⟩
     have hii:¬ TW l i i:=λh1=>Nat.lt_irrefl _ (hback i i h1)
     refine List.mem_flatMap.2 ⟨k,by rw [List.mem_range];omega,?_⟩
     rw [if_neg (by
       rintro hm
       rcases List.mem_cons.1 hm with hm | hm
       · omega
       · exact hii (hfree i hm))]
     unfold zFd
     rw [if_pos hlk,if_neg (by
       rintro ⟨j,hlj,hj⟩
       have:=h.closed j hlj i (hfree j hj)
       rw [hno] at this
       cases this)]
     exact hy
   have hlate:∀ j,TW l j i→(∀ y∈(zAa (Ds us) j).X,y∈((List.range l.length).flatMap λj=>if j∈i::(zAa (Ds us) i).use then [] else zFd (Ds us) (λi=>listed.getD i false) vs j))∧∀ u,(zAa (Ds us) j).was=some u→zBz l j u a:=λj hj=>by
     have hij:i<j:=hback j i hj
     have hlj:listed.getD j false=false:=by
       cases hb:listed.getD j false with
       | false=>rfl
       | true =>
         have:=h.closed j hb i hj
         rw [hno] at this
         cases this
     have hjl:j<l.length:=by
       rcases hj with ⟨o',ho2,_⟩ | ⟨⟨o',ho2,_⟩,_⟩<;>exact (List.getElem?_eq_some_iff.1 ho2).1
     refine ⟨λy hy=>?_,λu hu=>h.old j hjl hlj u hu⟩
     refine List.mem_flatMap.2 ⟨j,by rw [List.mem_range];exact hjl,?_⟩
     rw [if_neg (by
       rintro hm
       rcases List.mem_cons.1 hm with hm | hm
       · omega
       · have:=hback i j ((zEA (hu us)).1 i j hm)
         omega)]
     unfold zFd
     rw [if_neg (by show ¬ listed.getD j false=true;rw [hlj];simp)]
     exact hy
   have hSt:St n (F++zF3 n a) w (zN (zDV (zAa (Ds us) i) (Ds us) vs)) (zDV (zAa (Ds us) i) (Ds us) vs) a w:=⟨h.st.size,h.st.dfr,h.st.full.agr,⟨Chg.refl _ _,λy hy=>hmem.all y (by simp [hy]),(List.nodup_append.1 hnd).1,λk hk=>.inl hk⟩⟩
   have hcount:(listed.setIfInBounds i true).toList.count false+1=listed.toList.count false:=by
     rw [Array.toList_setIfInBounds]
     have hi2:i<listed.toList.length:=by simpa using hlt
     have h3:listed.toList[i]=false:=by simpa using h2
     exact zIK listed.toList i hi2 h3
   unfold wpOp
   rw [ho]
   rcases (hst us).get i o ho' with htr | htr
   · rw [Nat.zero_add] at htr
     refine zGc (htr a w (zF3 n a) _ vs hmem hSt htold hlate) λa' w' hn=>?_
     obtain ⟨vs',h'⟩:=h.step hg (hu us) ho' hno hall' hn
     exact ih _ vs' us a' w' (by omega) h'
   · rw [Nat.zero_add] at htr
     refine zGc (R:=λa' w'=>∃ g:Γ,RG n (F++zF3 n a) a w o (zDV (zAa (Ds us) i) (Ds us) vs) (zAa (Ds (zXx us i g)) i) i vs a' w') (htr a w (zF3 n a) _ vs hmem hSt htold hlate) λa' w' hn=>?_
     obtain ⟨g,hn⟩:=hn
     have hagree:∀ j,listed.getD j false=true→us j=zXx us i g j:=λj hj=>(zZS (λe=>by subst e;rw [hno] at hj;cases hj)).symm
     have h'':=h.trans G (us':=zXx us i g) hagree
     have hsame:∀ k,TW l i k→zAa (Ds us) k=zAa (Ds (zXx us i g)) k:=λk hk=>(G.same us _).get k λj hj=>hagree j ((G.ok k j hj).elim (λe=>e ▸ hall' k hk) (h.closed k (hall' k hk) j))
     rw [zPl G (λk hk=>(zEA (hu us)).1 i k hk) hsame] at hn
     · obtain ⟨vs',h'⟩:=h''.step hg (hu _) ho' hno hall' hn
       exact ih _ vs' _ a' w' (by omega) h'
theorem zH4 {id : Nat} {Ds : (Nat → Γ) → List OS} {l : List Oper} {X : List HA} (gd : List (List Nat)) (g0 : Γ) (hm : P.follows .mixedOrders = true) (hs : St n F w0 S M a w) (hX : (Ds fun _ => g0).flatMap (·.X) = X) (hd : zGU M X M0) (hg : zHQ F l = true) (hu : ∀ us, zHH l ((Ds us).map (·.use)) ((Ds us).map (·.dep)) = true) (fx : ∀ us us', (Ds us).map zS7 = (Ds us').map zS7)
   (same:∀ us us',zKv us us' gd (Ds us) (Ds us')) (hgd:(gd.zipIdx.all λx=>x.1.all λj=>Nat.beq j x.2 || twB l j l.length x.2)=true) (hlen:l.length=(Ds λ_=>g0).length) (hn:((Ds λ_=>g0).all λD=>D.was.isNone)=true)
   (hst:∀ us,zFw P l n F w0 S M0 Ds us 0 l)
   (hfin:∀ a w vs us,St n F w0 S (M0++zOx ((Ds us).flatMap (·.use)) vs 0 (Ds us)) a w→(∀ i,i<l.length→zBz l i (vs i) a∧(zAa (Ds us) i).vp ((zAa (Ds us) i).m i vs))→Q .normal a w):(Code.region id l.toArray true).wp P Q a w:=by
 have G:=zbR fx same hgd
 have hln:∀ us,l.length=(Ds us).length:=λus=>by
   have:=congrArg List.length (fx us λ_=>g0)
   simp only [List.length_map] at this
   omega
 have hwas:∀ us j u,(zAa (Ds us) j).was=some u→False:=λus j u hu=>by
   rw [(zFj (fx us λ_=>g0) j).2.2] at hu
   rw [List.all_eq_true] at hn
   unfold zAa at hu
   rcases Nat.lt_or_ge j (Ds λ_=>g0).length with h | h
   · rw [List.getElem?_eq_getElem h] at hu
     have:=hn _ (List.getElem_mem h)
     rw [show ((Ds λ_=>g0)[j]).was=some u from hu] at this
     cases this
   · rw [List.getElem?_eq_none h] at hu
     simp [OS.nil] at hu
 refine wp_region_any hm (zMZ (Ds:=Ds) G hg hu hst ?_ _ _ (λ_=>undef) (λ_=>g0) _ _ (by simp) ⟨?_,by simp,?_,?_,λj hj _ u hu=>(hwas _ j u hu).elim⟩)
 · intro listed vs us a w h hall
   refine hfin a w vs us ?_ λi hi=>h.fact i hi (hall i hi)
   have e:(List.range l.length).flatMap (zFd (Ds us) (λi=>listed.getD i false) vs)=zOx ((Ds us).flatMap (·.use)) vs 0 (Ds us):=by
     rw [zNB,← hln us,List.range_eq_range',List.flatMap_def,List.flatMap_def]
     congr 1
     refine List.map_congr_left λk hk=>?_
     rw [List.mem_range'_1] at hk
     unfold zFd
     rw [if_pos (hall k (by omega)),Nat.sub_zero]
     have ht:zH7 (Ds us) (λi=>listed.getD i false) k↔((Ds us).flatMap (·.use)).elem k=true:=by
       rw [List.elem_iff,List.mem_flatMap]
       constructor
       · rintro ⟨j,hj,hkj⟩
         unfold zAa at hkj
         rcases Nat.lt_or_ge j (Ds us).length with hj | hj
         · rw [List.getElem?_eq_getElem hj] at hkj;exact ⟨(Ds us)[j],List.getElem_mem hj,hkj⟩
         · rw [List.getElem?_eq_none hj] at hkj;simp [OS.nil] at hkj
       · rintro ⟨D,hD,hkD⟩
         obtain ⟨j,hj,rfl⟩:=List.mem_iff_getElem.1 hD
         exact ⟨j,hall j (by rw [hln us];omega),by unfold zAa;rw [List.getElem?_eq_getElem hj];exact hkD⟩
     by_cases h1:zH7 (Ds us) (λi=>listed.getD i false) k
     · rw [if_pos h1,if_pos (ht.1 h1)]
     · rw [if_neg h1,if_neg (λh=>h1 (ht.2 h))]
   rw [← e]
   exact h.st
 · have h1:=hs.frame (zC5.n (M:=M)) (zNT w (w.drawn+1))
   simp only [List.nil_append] at h1
   refine ⟨h1.size,h1.dfr,h1.agr,h1.mem.perm (hd.permL.trans (List.perm_append_comm.trans (List.Perm.append_left M0 ?_)))⟩
   generalize (Ds λ_=>g0)=D0 at hX hlen
   have e:(List.range l.length).flatMap (zFd D0 (λi=>(Array.replicate l.toArray.size false).getD i false) λ_=>undef)=D0.flatMap (·.X):=by
     have hc:(zFd D0 (λi=>(Array.replicate l.toArray.size false).getD i false) λ_=>undef)=λi=>(zAa D0 i).X:=by
       funext i
       unfold zFd
       rw [if_neg]
       simp [Array.getD_eq_getD_getElem?,Array.getElem?_replicate]
       split<;>simp
     rw [hc,hlen]
     clear hc hX hlen
     induction D0 with
     | nil=>rfl
     | cons D Ds ih =>
       rw [List.length_cons,List.range_succ_eq_map,List.flatMap_cons,List.flatMap_cons,List.flatMap_map]
       congr 1
   rw [e,hX]
 · intro i hi hl
   simp [Array.getD_eq_getD_getElem?,Array.getElem?_replicate] at hl
   split at hl<;>simp at hl
 · intro i hl
   simp [Array.getD_eq_getD_getElem?,Array.getElem?_replicate] at hl
   split at hl<;>simp at hl
section
variable {P : Program} {ops : Array Oper} {Q : Exit → Act → World → Prop} {rest : List Oper} {n : Nat} {F : List (Nat × Value)} {w0 : World} {S : List Nat} {M : List HA} {a : Act} {w : World} {d : Nat} {ty : TypeId} {pos : String} {af : Array Edge}
theorem zQT {x i : Operand} {t e : TypeId} {g o len j : Nat} {kd : IntKind} (hs : St n F w0 S M a w) (hx : evo F x = some (.pointer (some ⟨g, o, none⟩))) (hi : evo F i = some (.int kd ((j : Nat) : Int))) (ht : P.underlying t = some (.array len e))
   (h1:j<len) (hsz:∀ w,(sizeOf e).run P w = .ok 1 w) (hd:Nat.blt d n=true)
   (k:∀ a w,St n ((d,.pointer (some ⟨g,o+j,none⟩))::F) w0 S M a w→wpList P ops Q rest a w):wpList P ops Q (⟨some d,.indexAddr t x i,ty,pos,af,none⟩::rest) a w:=by
 have ha:(⟨g,o,none⟩ : Addr).add j=⟨g,o+j,none⟩:=by unfold Addr.add;split<;>simp_all
 have hb:0≤(j:Int)∧(j:Int)<(len:Int):=⟨by omega,by omega⟩
 exact zM hs (by simp [execOp,Instr.indexAt,Instr.sureAddr,asIntOf,hs.ev hx,hs.ev hi,run_underlying ht,hb,hsz,ha];intro;omega) hd k
theorem zKR {x : Operand} {v : Value} {t t2 : TypeId} {g i : Nat} {cs : List Value} (hs : St n F w0 S M a w) (hx : evo F x = some (.pointer (some ⟨g, i, none⟩))) (hb : (blk g cs t2).p w) (hv : cs[i]? = some v)
   (hag:∀ w,(isAgg t).run P w = .ok false w) (hd:Nat.blt d n=true)
   (k:∀ a w,St n ((d,v)::F) w0 S M a w→wpList P ops Q rest a w):wpList P ops Q (⟨some d,.load t x,ty,pos,af,none⟩::rest) a w:=by
 have hc:=(zBL (i:=i) hb).trans hv
 exact zM hs (by simp [execOp,Instr.loadAt,Instr.sureAddr,loadVar,hs.ev hx,hag,run_load,hc]) hd k
theorem zUX {cs:List Value} {i:Nat} {u:Value} (h:i<cs.length):zK3 cs i u (cs.set i u):=by
 induction cs generalizing i with
 | nil=>simp at h
 | cons c cs ih =>
  cases i with
  | zero=>exact .z
  | succ i=>exact .s (ih (by simpa using h))
theorem zSZ {x y : Operand} {u : Value} {t t2 : TypeId} {g i : Nat} {cs cs' : List Value} {M' : List HA} (hs : St n F w0 S M a w) (hx : evo F x = some (.pointer (some ⟨g, i, none⟩))) (hy : evo F y = some u) (hb : Del M (blk g cs t2) M') (hi : i < cs.length) (hv : cs.set i u = cs')
   (h1:u.oneCell'=true) (hsz:∀ w,(sizeOf t).run P w = .ok 1 w)
   (k:∀ a w,St n F w0 S (blk g cs' t2::M') a w→wpList P ops Q rest a w):wpList P ops Q (⟨none,.store t x y,ty,pos,af,none⟩::rest) a w:=by
 subst hv
 exact zBh hs hx hy hb (zUX hi) h1 hsz k
end
variable {P : Program} {Q : Exit → Act → World → Prop} {n : Nat} {F : List (Nat × Value)} {w0 : World} {S : List Nat} {M M0 : List HA} {a : Act} {w : World} {l : List Oper} {Ds : List OS} {Bs : BL} {M1 : List HA}
inductive DC where
 | l (deps ann hs ls:List Nat)
 | v (deps:List Nat) (u:Value)
 | s (deps ann xs us:List Nat)
 | y (deps:List Nat) (u:Value) (X:List HA) (use dep:List Nat) (N:(Nat→Value)→List HA)
 | x (deps:List Nat) (D:OS)
abbrev DC.p (deps ann:List Nat):DC:=.l deps ann [] []
def DC.deps : DC→List Nat
 | .l ds _ _ _=>ds
 | .v ds _=>ds
 | .s ds _ _ _=>ds
 | .y ds _ _ _ _ _=>ds
 | .x ds _=>ds
def bls : BL→List HA
 | []=>[]
 | (g,cs,t)::r=>blk g cs t::bls r
theorem zEu : ∀ B:BL,bls B=B.map bkH
 | []=>rfl
 | (g,cs,t)::r=>by simp only [bls,List.map_cons,zEu r];rfl
def zcj : BL→Nat→(Nat×List Value×TypeId→Prop)→Prop
 | [],_,_=>False
 | b::_,0,c=>c b
 | _::r,q+1,c=>zcj r q c
theorem zLE : ∀ {B:BL} {q:Nat} {c:Nat×List Value×TypeId→Prop},zcj B q c→∃ b,B[q]? = some b∧c b
 | [],_,_,h=>h.elim
 | b::_,0,_,h=>⟨b,rfl,h⟩
 | _::r,q+1,_,h=>zLE (B:=r) (q:=q) h
def zYG (B:BL) (xs:List Nat):BL:=xs.filterMap (B[·]?)
def zVd (B:BL):List Nat→(BL→Prop)→Prop
 | [],c=>c []
 | q::r,c=>zcj B q λb=>zVd B r λl=>c (b::l)
theorem zGk {B:BL}:∀ {xs:List Nat} {c:BL→Prop},zVd B xs c→c (zYG B xs)
 | [],_,h=>h
 | q::r,c,h=>by
  obtain ⟨b,hb,h⟩:=zLE h
  have:=zGk (xs:=r) h
  simpa [zYG,List.filterMap_cons,hb] using this
def DC.X (Xp:BL):DC→List HA
 | .s _ _ xs _=>bls (zYG Xp xs)
 | .y _ _ X _ _ _=>X
 | .x _ D=>D.X
 | _=>[]
def DC.use : DC→List Nat
 | .s _ _ _ us=>us
 | .y _ _ _ us _ _=>us
 | .x _ D=>D.use
 | _=>[]
def zOj (Xp:BL) (cs0:List DC):List Nat→(BL→Prop)→Prop
 | [],c=>c []
 | j::r,c=>match cs0[j]? with
  | some (.s _ _ xs _)=>zVd Xp xs λB=>zOj Xp cs0 r λB'=>c (B++B')
  | _=>False
theorem zHp {Xp:BL} {cs0:List DC}:∀ {js:List Nat} {c:BL→Prop},zOj Xp cs0 js c→∃ B,c B∧∀ b∈B,∃ j∈js,∃ C,cs0[j]? = some C∧bkH b∈C.X Xp
 | [],c,h=>⟨[],h,by simp⟩
 | j::r,c,h=>by
  unfold zOj at h
  split at h
  ·rename_i xs _ hj
   obtain ⟨B',h2,h3⟩:=zHp (zGk h)
   refine ⟨_,h2,λb hb=>?_⟩
   rcases List.mem_append.1 hb with hb | hb
   ·exact ⟨j,by simp,_,hj,by simp only [DC.X,zEu];exact List.mem_map.2 ⟨b,hb,rfl⟩⟩
   ·obtain ⟨j',h4,h5⟩:=h3 b hb;exact ⟨j',by simp [h4],h5⟩
  ·cases h
def zVM (k:Nat):List (Nat×BL)→(BL→Prop)→Prop
 | [],_=>False
 | (j,B)::r,c=>bif Nat.beq j k then c B else zVM k r c
theorem zJR {k:Nat}:∀ {L:List (Nat×BL)} {c:BL→Prop},zVM k L c→∃ B,(k,B)∈L∧c B
 | [],_,h=>h.elim
 | (j,B)::r,c,h=>by
  unfold zVM at h
  cases hb:Nat.beq j k with
  | true =>
   rw [hb] at h
   have:=Nat.eq_of_beq_eq_true hb
   subst this
   exact ⟨B,by simp,h⟩
  | false =>
   rw [hb] at h
   obtain ⟨B',h1,h2⟩:=zJR (L:=r) h
   exact ⟨B',by simp [h1],h2⟩
def zUT (L:List (Nat×BL)):List Nat→(BL→Prop)→Prop
 | [],c=>c []
 | k::r,c=>zVM k L λB=>zUT L r λB'=>c (B++B')
theorem zGe {L:List (Nat×BL)}:∀ {ks:List Nat} {c:BL→Prop},zUT L ks c→∃ B,c B∧(∀ f:Nat→List HA,(∀ k B,(k,B)∈L→f k=bls B)→ks.flatMap f=bls B)∧∀ b∈B,∃ k∈ks,∃ B',(k,B')∈L∧b∈B'
 | [],c,h=>⟨[],h,λ_ _=>rfl,by simp⟩
 | k::r,c,h=>by
  obtain ⟨B,h1,h⟩:=zJR h
  obtain ⟨B',h2,h3,h4⟩:=zGe (ks:=r) h
  refine ⟨_,h2,λf hf=>?_,λb hb=>?_⟩
  ·simp only [List.flatMap_cons,hf _ _ h1,h3 f hf,zEu,List.map_append]
  ·rcases List.mem_append.1 hb with hb | hb
   ·exact ⟨k,by simp,B,h1,hb⟩
   ·obtain ⟨k',h5,h6⟩:=h4 b hb;exact ⟨k',by simp [h5],h6⟩
def zXr (l:List Oper) (cs0:List DC) (i k:Nat):Bool:=cs0.zipIdx.all λc=>!(c.1.use.elem k) || twB l i l.length c.2
def zSi (P:Program) (F:List (Nat×Value)) (B:BL) (ann:List Nat) (o:Oper) (c:BL→Prop):Prop :=
 match o with
 | ⟨none,.store t x y,_,_,_,none⟩=>zHr P 0 F B ann none (.store t x y) λ_ B' _=>c B'
 | _=>False
theorem zS4 {F R:List (Nat×Value)} {x:Operand} {v:Value} (h:evo F x=some v):evo (F++R) x=some v:=by
 cases x with
 | tmp t=>show lk (F++R) t=some v;rw [zD6,show lk F t=some v from h];rfl
 | _=>exact h
theorem zPV {B : BL} {ann : List Nat} {o : Oper} {c : BL → Prop} (h : zSi P F B ann o c) : o.dst = none ∧ ∃ B', c B' ∧ ∀ {R : List (Nat × Value)} {n : Nat} {w0 : World} {S : List Nat} {M1 : List HA} {a : Act} {w : World} {ops : Array Oper} {Q : Exit → Act → World → Prop},
   St n (F++R) w0 S (B.map bkH++M1) a w→(∀ a w,St n (F++R) w0 S (B'.map bkH++M1) a w→Q .normal a w)→wpList P ops Q [o] a w:=by
 unfold zSi at h
 split at h
 · simp only [zHr] at h
   split at h
   · rename_i hx hy hsz hu
     split at h
     · rename_i hq
       obtain ⟨rfl,h⟩:=h
       obtain ⟨B',hc,hr⟩:=zK4 hsz hq h
       exact ⟨rfl,B',hc,λhs K=>hr hs (zS4 hx) (zS4 hy) λa w hs=>wpList_nil (K a w hs)⟩
     · cases h
   · cases h
 · cases h
def zL0 : Op→Bool
 | .store _ _ _ | .alloc _ | .box _ _ | .buildSlice _ _ _=>false
 | _=>true
def zVz (k:Nat):List (Nat×Nat×Value)→(Nat×Value→Prop)→Prop
 | [],_=>False
 | (j,d,v)::r,c=>bif Nat.beq j k then c (d,v) else zVz k r c
theorem zI4 {k:Nat}:∀ {E:List (Nat×Nat×Value)} {c:Nat×Value→Prop},zVz k E c→∃ d v,(k,d,v)∈E∧c (d,v)
 | [],_,h=>h.elim
 | (j,d,v)::r,c,h=>by
  unfold zVz at h
  cases hb:Nat.beq j k with
  | true =>
   rw [hb] at h
   have:=Nat.eq_of_beq_eq_true hb
   subst this
   exact ⟨d,v,by simp,h⟩
  | false =>
   rw [hb] at h
   obtain ⟨d',v',h1,h2⟩:=zI4 (E:=r) h
   exact ⟨d',v',by simp [h1],h2⟩
def zZi (E:List (Nat×Nat×Value)) (F:List (Nat×Value)):List Nat→(List (Nat×Value)→Prop)→Prop
 | [],c=>c F
 | k::ks,c=>zVz k E λp=>zZi E F ks λG=>c (p::G)
theorem zDx {E:List (Nat×Nat×Value)}:∀ {ks:List Nat} {c:List (Nat×Value)→Prop},zZi E F ks c→∃ Fi,(∀ p∈Fi,∃ k∈ks,(k,p.1,p.2)∈E)∧c (Fi++F)
 | [],c,h=>⟨[],by simp,h⟩
 | k::ks,c,h=>by
  obtain ⟨d,v,h1,h2⟩:=zI4 h
  obtain ⟨Fi,h3,h4⟩:=zDx (ks:=ks) h2
  refine ⟨(d,v)::Fi,λp hp=>?_,h4⟩
  rcases List.mem_cons.1 hp with rfl | hp
  ·exact ⟨k,by simp,h1⟩
  ·obtain ⟨k',hk,h5⟩:=h3 p hp;exact ⟨k',by simp [hk],h5⟩
def zcD (F:List (Nat×Value)) (c:Nat×Value→Prop):Prop:=match F with
 | p::_=>c p
 | []=>False
def zEb (P:Program) (n:Nat) (F:List (Nat×Value)) (w0:World) (S:List Nat) (M0:List HA) (l:List Oper) (Bs Xp:BL) (cs0:List DC):Nat→List Oper→List DC→List (Nat×Nat×Value)→List (Nat×BL)→List OS→(List (Nat×Nat×Value)→List OS→Prop)→Prop
 | _,[],[],E,_,R,c=>c E R
 | i, o :: r, .l ds ann hs ls :: cs, E, L, R, c => zZi E F ds fun Fi => zOj Xp cs0 hs fun B1 => zUT L ls fun B2 =>
     bif zL0 o.op && o.dst.isSome then zPQ P n l.toArray Fi (B1++(B2++Bs)) ann o λF' _ _=>zcD F' λp=>zEb P n F w0 S M0 l Bs Xp cs0 (i+1) r cs ((i,p.1,p.2)::E) L (Pv i p.2::R) c else False
 | i,o::r,.v ds u::cs,E,L,R,c=>match o.dst with
   | some d=>zZi E F ds λFi=>(∀ a w R Q,Mem w0 S M0 w→St n (Fi++R) w [] [] a w→(∀ a' w',St n ((d,u)::(Fi++R)) w [] [] a' w'→Q .normal a' w')→wpList P l.toArray Q [o] a w)∧zEb P n F w0 S M0 l Bs Xp cs0 (i+1) r cs ((i,d,u)::E) L (Pv i u::R) c
   | none=>False
 | i,o::r,.s ds ann xs us::cs,E,L,R,c=>zZi E F ds λFi=>zVd Xp xs λB1=>zUT L us λB2=>zSi P Fi (B1++B2) ann o λB'=>zEb P n F w0 S M0 l Bs Xp cs0 (i+1) r cs E ((i,B')::L) (⟨bls B1,us,[],λ_=>True,λ_=>bls B',none⟩::R) c
 | i,o::r,.y _ v X us dp N::cs,E,L,R,c=>match o.dst with
   | some d=>zEb P n F w0 S M0 l Bs Xp cs0 (i+1) r cs ((i,d,v)::E) L (⟨X,us,dp,λvs=>vs i=v,N,none⟩::R) c
   | none=>False
 | i,_::r,.x _ D::cs,E,L,R,c=>zEb P n F w0 S M0 l Bs Xp cs0 (i+1) r cs E L (D::R) c
 | _,_,_,_,_,_,_=>False
def DC.readB (l:List Oper) (cs0:List DC) (i:Nat):DC→Bool
 | .l _ _ hs ls=>(hs.all λj=>twB l i l.length j) && (ls.all λk=>twB l k l.length i && zXr l cs0 i k)
 | _=>true
def zWD (l:List Oper) (cs0:List DC):Nat→List DC→Bool
 | _,[]=>true
 | i,c::cs=>((c.deps.all λk=>twB l k l.length i) && c.readB l cs0 i) && zWD l cs0 (i+1) cs
def Nsm (vs:Nat→Value):Nat→List OS→List (List HA)
 | _,[]=>[]
 | i,D::Ds=>D.N (D.m i vs)::Nsm vs (i+1) Ds
def Nok (Ds:List OS):Prop:=∀ k vs,(zAa Ds k).N ((zAa Ds k).m k vs)=(zAa Ds k).N vs
theorem zOY {vs:Nat→Value}:∀ {Ds:List OS} {j:Nat},Nsm vs j Ds=Ds.map (·.N vs)→∀ k,(zAa Ds k).N ((zAa Ds k).m (j+k) vs)=(zAa Ds k).N vs
 | [],_,_,k=>by simp [zAa,OS.nil]
 | D::r,j,h,k=>by
  simp only [Nsm,List.map_cons,List.cons.injEq] at h
  cases k with
  | zero=>simpa [zAa] using h.1
  | succ k=>have:=zOY h.2 k;simp only [zAa,List.getElem?_cons_succ] at this ⊢;rw [show j+(k+1)=j+1+k by omega];exact this
theorem zNV {Ds:List OS} (h:∀ vs,Nsm vs 0 Ds=Ds.map (·.N vs)):Nok Ds:=λk vs=>by
 have:=zOY (h vs) k
 rwa [Nat.zero_add] at this
def zcd (D:OS) (Ds:List OS) (vs:Nat→Value):List HA:=D.X++D.use.flatMap λk=>(zAa Ds k).N vs
def zTP (us:List Nat) (vs:Nat→Value):Nat→List OS→List HA
 | _,[]=>[]
 | i,D::Ds=>(bif us.elem i then [] else D.N vs)++zTP us vs (i+1) Ds
theorem zXM {Ds:List OS} (h:Nok Ds) (D:OS) (vs:Nat→Value):zDV D Ds vs=zcd D Ds vs:=by
 unfold zDV zcd
 congr 1
 exact congrArg (λf=>List.flatMap f D.use) (funext λk=>h k vs)
theorem zIY {us:List Nat} {vs:Nat→Value}:∀ {Ds:List OS} {j:Nat},Nsm vs j Ds=Ds.map (·.N vs)→zOx us vs j Ds=zTP us vs j Ds
 | [],j,h=>rfl
 | D::r,j,h=>by
  simp only [Nsm,List.map_cons,List.cons.injEq] at h
  simp only [zOx,zTP,h.1]
  rw [zIY h.2]
  cases us.elem j<;>rfl
def zZP (P:Program) (l:List Oper) (n:Nat) (F Fi:List (Nat×Value)) (w0:World) (S:List Nat) (M0:List HA) (Ds:List OS) (i:Nat) (o:Oper) (D:OS):Prop :=
 ∀ a w R rest vs,Mem w0 S (zDV D Ds vs++(M0++rest)) w→zGg (zcd D Ds vs) λO=>St n (Fi++R) w (zN O) O a w→(∀ k,TW l i k→zTR l Ds rest vs i k a)→(∀ j,TW l j i→(∀ h∈(zAa Ds j).X,h∈rest)∧∀ u,(zAa Ds j).was=some u→zBz l j u a) →
  wpList P l.toArray (QG n (F++R) a w o (zDV D Ds vs) D i vs) [o] a w
def zDK (P:Program) (l:List Oper) (n:Nat) (F:List (Nat×Value)) (w0:World) (S:List Nat) (M0:List HA) (Ds:List OS) (E:List (Nat×Nat×Value)):Nat→List Oper→List DC→Prop
 | i,o::r,.x ds D::cs=>(zZi E F ds λFi=>zZP P l n F Fi w0 S M0 Ds i o D)∧zDK P l n F w0 S M0 Ds E (i+1) r cs
 | i,o::r,.y ds v X us dp N::cs=>(zZi E F ds λFi=>zZP P l n F Fi w0 S M0 Ds i o ⟨X,us,dp,λvs=>vs i=v,N,none⟩)∧zDK P l n F w0 S M0 Ds E (i+1) r cs
 | i,_::r,.l _ _ _ _::cs=>zDK P l n F w0 S M0 Ds E (i+1) r cs
 | i,_::r,.s _ _ _ _::cs=>zDK P l n F w0 S M0 Ds E (i+1) r cs
 | i,_::r,.v _ _::cs=>zDK P l n F w0 S M0 Ds E (i+1) r cs
 | _,_,_=>True
theorem zBB {B : BL} {ann : List Nat} {d' : Nat} {op : Op} {v : Value} {c : Kt} (h : zEa n F (some d') v fun F' => c F' B ann) (hr : ∀ (a : Act) (w : World) (ty : TypeId) (pos : String) (af : Array Edge), St n F w [] [] a w → (∀ b ∈ B, (bkH b).p w) → (execOp a.eval ⟨some d', op, ty, pos, af, none⟩).run P w = .ok (.value v) w) :
   ∃ v ann',Nat.blt d' n=true∧c ((d',v)::F) B ann'∧∀ (a:Act) (w:World) (ty:TypeId) (pos:String) (af:Array Edge),St n F w [] [] a w→(∀ b∈B,(bkH b).p w)→(execOp a.eval ⟨some d',op,ty,pos,af,none⟩).run P w = .ok (.value v) w:=by
 obtain ⟨d2,h2,hb,hc⟩:=zBu h
 injection h2 with h2
 subst h2
 exact ⟨v,ann,hb,hc,hr⟩
theorem zLl {t : TypeId} {ps : Array (Nat × Operand)} {vs : List (Nat × Value)} {cs : List Value} (hp : EvP F ps.toList vs) (hb : P.built t vs = some cs.toArray) {d' : Nat} {ty : TypeId} {pos : String} {af : Array Edge} (hs : St n F w [] [] a w) :
   (execOp a.eval ⟨some d',.build t ps,ty,pos,af,none⟩).run P w = .ok (.value (.agg cs.toArray)) w:=by
 have he:(ps.map λ(i,x)=>(i,a.eval x)).toList=vs:=by
   have:=hp.eval hs
   rw [← this];simp
 unfold execOp
 simp only [Sem.run_bind]
 rw [run_build w t _ cs.toArray (by rw [he];exact hb)]
 rfl
theorem zRy {B : BL} {ann : List Nat} {d' : Nat} {op : Op} {c : Kt} (hp : zL0 op = true) (h : zHr P n F B ann (some d') op c) : ∃ v ann', Nat.blt d' n = true ∧ c ((d', v) :: F) B ann' ∧
   ∀ (a:Act) (w:World) (ty:TypeId) (pos:String) (af:Array Edge),St n F w [] [] a w→(∀ b∈B,(bkH b).p w)→(execOp a.eval ⟨some d',op,ty,pos,af,none⟩).run P w = .ok (.value v) w:=by
 unfold zHr at h
 split at h
 · split at h
   · rename_i g i q ann' hx
     split at h
     · rename_i g' cs t2 hq
       obtain ⟨rfl,h⟩:=h
       obtain ⟨v,hv,h⟩:=zGi h
       exact zBB h λa w ty pos af hs hB=>by
         have hb:(blk g cs t2).p w:=hB _ (List.mem_of_getElem? hq)
         simp [execOp,Instr.loadAt,Instr.sureAddr,hs.ev hx,zIZ (P:=P) w hb hv]
     · cases h
   · cases h
 · simp [zL0] at hp
 · simp [zL0] at hp
 · simp [zL0] at hp
 · obtain ⟨vs,h1,h⟩:=zE7 h
   obtain ⟨us,h2,h⟩:=zE7 h
   exact zBB h λa w ty pos af hs hB=>by
     have e1:=hs.evs h1
     have e2:=hs.evs h2
     rw [← e1,← e2]
     simp only [execOp,Instr.makeFunc]
     simp
     exact ⟨by apply Array.ext';simp,by apply Array.ext';simp⟩
 · split at h
   · rename_i ps fs z ht hz
     split at h
     · rename_i zs pl hzs hpl
       obtain ⟨vs,cs,h1,h2,h⟩:=zFf hpl h
       obtain ⟨it,hit,hz'⟩:=Option.bind_eq_some_iff.1 hz
       exact zBB h λa w ty pos af hs hB=>zLl h1 (by
         unfold Program.built
         have hpl':=hpl
         unfold zIf at hpl'
         simp only [hit,ht,hz',hpl']
         have:=h2.fill
         rw [zCP hzs]
         simpa using this) hs
     · cases h
   · rename_i ps len e z ht hz
     split at h
     · rename_i zs sz hzs hsz
       obtain ⟨vs,cs,h1,h2,h⟩:=zE5 h
       obtain ⟨it,hit,hz'⟩:=Option.bind_eq_some_iff.1 hz
       obtain ⟨ie,hie,hsz'⟩:=Option.map_eq_some_iff.1 hsz
       exact zBB h λa w ty pos af hs hB=>zLl h1 (by
         subst hsz'
         unfold Program.built
         simp only [hit,ht,hz',hie]
         have:=h2.fill
         rw [zCP hzs]
         simpa using this) hs
     · cases h
   · cases h
 · simp [zL0] at hp
 · split at h
   · rename_i f vs hx
     split at h
     · rename_i fs ht
       split at h
       · rename_i fd hf
         obtain ⟨v,hv,h⟩:=zHm h
         have hf':=zGf hf
         exact zBB h λa w ty pos af hs hB=>by
           have hv':=hv w
           simp only [Array.toArray_toList] at hv'
           simp [execOp,Instr.field,hs.ev hx,run_underlying ht,hf',asAgg,hv']
       · cases h
     · cases h
   · cases h
 · split at h
   · rename_i vs _ q hx hi
     split at h
     · rename_i len e ht
       split at h
       · rename_i size hsz
         cases hb:Nat.blt q len with
         | false=>rw [hb] at h;cases h
         | true =>
           rw [hb] at h
           simp only [cond_true] at h
           obtain ⟨v,hv,h⟩:=zHm h
           have hb2:=hb
           simp only [Nat.blt_eq] at hb2
           exact zBB h λa w ty pos af hs hB=>by
             have hv':=hv w
             simp only [Array.toArray_toList] at hv'
             simp only [execOp,Instr.index,asIntOf,hs.ev hx,hs.ev hi]
             simp [run_underlying ht,zCz _ hsz,hv',hb2]
       · cases h
     · cases h
   · cases h
 · split at h
   · rename_i x t hxs hts
     split at h
     · rename_i p m cc e hx ht
       rw [zE6 hxs,zE6 hts]
       exact zBB h λa w ty pos af hs hB=>by simp [execOp,resolve,invoke,builtin,Builtin.len_,hs.ev hx,run_underlying ht,goInt]
     · cases h
   · cases h
 · split at h
   · rename_i x y hxs
     split at h
     · rename_i p q hx hy
       rw [zE6 hxs]
       have e:(if q<p then q else p)=min p q:=by omega
       exact zBB h λa w ty pos af hs hB=>by simp [execOp,resolve,invoke,builtin,Builtin.min_,Builtin.min2,hs.ev hx,hs.ev hy,e]
     · cases h
   · cases h
 · split at h
   · rename_i x y hxs
     split at h
     · rename_i p q hx hy
       rw [zE6 hxs]
       have e:(if q > p then q else p)=max p q:=by omega
       exact zBB h λa w ty pos af hs hB=>by simp [execOp,resolve,invoke,builtin,Builtin.max_,Builtin.max2,hs.ev hx,hs.ev hy,e]
     · cases h
   · cases h
 · split at h
   · rename_i p hx
     exact zBB h.2 λa w ty pos af hs hB=>by
       have h1:=h.1
       have e:=IntWalk.i64_in _ h1
       simp [execOp,hs.ev hx,Op.unary,Op.intArith,e]
   · cases h
 · split at h
   · rename_i p q hx hy
     split at h
     · exact zBB h.2 λa w ty pos af hs hB=>by simp [execOp,hs.ev hx,hs.ev hy,binOp,eqGuard,Op.intArith,Op.intCmp,IntWalk.i64_in _ h.1]
     · exact zBB h.2 λa w ty pos af hs hB=>by simp [execOp,hs.ev hx,hs.ev hy,binOp,eqGuard,Op.intArith,Op.intCmp,IntWalk.i64_in _ h.1]
     · exact zBB h.2 λa w ty pos af hs hB=>by simp [execOp,hs.ev hx,hs.ev hy,binOp,eqGuard,Op.intArith,Op.intCmp,IntWalk.i64_in _ h.1]
     all_goals first
       | cases h
       | exact zBB h λa w ty pos af hs hB=>by first | (simp [execOp,hs.ev hx,hs.ev hy,binOp,eqGuard,Op.intArith,Op.intCmp];done) | (simp [execOp,hs.ev hx,hs.ev hy,binOp,eqGuard,Op.intArith,Op.intCmp]<;>rfl)
   · rename_i p q hx hy
     split at h
     · rename_i ht;exact zBB h λa w ty pos af hs hB=>by simp only [execOp,hs.ev hx,hs.ev hy,binOp,eqGuard,Op.equal];simp [zJ2 ht]
     · rename_i ht;exact zBB h λa w ty pos af hs hB=>by simp only [execOp,hs.ev hx,hs.ev hy,binOp,eqGuard,Op.equal];simp [zJ2 ht]
     · cases h
   · rename_i p hx hy
     split at h
     · rename_i ht
       exact zBB h λa w ty pos af hs hB=>by
         have:=zFL (P:=P) (w:=w) 9999 (p:=none) ht
         simp only [execOp,hs.ev hx,hs.ev hy,binOp,eqGuard,Op.equal];simp [Op.maxDepth,this]
     · rename_i ad ht
       exact zBB h λa w ty pos af hs hB=>by
         have:=zFL (P:=P) (w:=w) 9999 (p:=some ad) ht
         simp only [execOp,hs.ev hx,hs.ev hy,binOp,eqGuard,Op.equal];simp [Op.maxDepth,this]
     · rename_i ht
       exact zBB h λa w ty pos af hs hB=>by
         have:=zFL (P:=P) (w:=w) 9999 (p:=none) ht
         simp only [execOp,hs.ev hx,hs.ev hy,binOp,eqGuard,Op.equal];simp [Op.maxDepth,this]
     · rename_i ad ht
       exact zBB h λa w ty pos af hs hB=>by
         have:=zFL (P:=P) (w:=w) 9999 (p:=some ad) ht
         simp only [execOp,hs.ev hx,hs.ev hy,binOp,eqGuard,Op.equal];simp [Op.maxDepth,this]
     · cases h
   · rename_i xs ys hx hy
     obtain ⟨hE,h⟩:=h
     injection hE with hks hg
     generalize hb:(zMK xs.toList (zXe xs.toList) && (zMK ys.toList (zXe xs.toList) && zBN P _))=bb at h
     cases bb with
     | false=>cases h
     | true =>
       simp only [cond_true] at h
       simp only [Bool.and_eq_true] at hb
       split at h
       all_goals first
         | (exact zBB h fun a w ty pos af hs hB => by
              have hh:=zMW 6 _ _ hks xs.toList ys.toList (zE4 hb.1) (zE4 hb.2.1) 10000 w (by decide)
              simp only [zFU,hb.2.2,if_true,Array.toArray_toList] at hh
              simp [execOp,hs.ev hx,hs.ev hy,run_eqGuard_agg w _ _ _ _ _ _ hg,run_eql_struct,run_neq_struct,hh])
         | cases h
   · split at h
     · rename_i v hv
       exact zBB h λa w ty pos af hs hB=>zH5 hv hs (λhb=>by cases hb) (λp hp=>by simp [eq1] at hp)
     · cases h
   · cases h
 · split at h
   · rename_i v hv
     exact zBB h λa w ty pos af hs hB=>zH5 hv hs (λhb=>by cases hb) (λp hp=>by
       unfold eq1 at hp
       split at hp
       · split at hp
         · rename_i hB;cases hB
         · cases hp
       · cases hp)
   · cases h
theorem zQM {B : BL} {ann : List Nat} {o : Oper} {d' : Nat} {c : Kt} (hd' : o.dst = some d') (hp : zL0 o.op = true) (h : zPQ P n l.toArray F B ann o c) : ∃ v ann', c ((d', v) :: F) B ann' ∧
   ∀ (Q:Exit→Act→World→Prop) (a:Act) (w:World),St n F w [] [] a w→(∀ b∈B,(bkH b).p w)→(∀ a',a'=a.put (some d') v→Nat.blt d' n=true→Q .normal a' w)→wpList P l.toArray Q [o] a w:=by
 obtain ⟨d,op,ty,pos,af,g⟩:=o
 dsimp only at hd' hp
 subst hd'
 have exec:∀ {c:Kt},zHr P n F B ann (some d') op c→∃ v ann',c ((d',v)::F) B ann'∧∀ (Q:Exit→Act→World→Prop) (a:Act) (w:World),St n F w [] [] a w→(∀ b∈B,(bkH b).p w)→(∀ a',a'=a.put (some d') v→Nat.blt d' n=true→Q .normal a' w)→wpList P l.toArray Q [⟨some d',op,ty,pos,af,none⟩] a w:=λh=>by
   obtain ⟨v,ann',hb,hc,hr⟩:=zRy hp h
   exact ⟨v,ann',hc,λQ a w hs hB hK=>zDn rfl rfl (hr a w ty pos af hs hB) (wpList_nil (hK _ rfl hb))⟩
 have und:∀ {c:Kt} {j:Nat} {b:Bool},zH9 n F B ann (some d') c→(∀ (a:Act) (w:World),St n F w [] [] a w→(yielded l.toArray a.tmps j==some b)=false)→∃ v ann',c ((d',v)::F) B ann'∧∀ (Q:Exit→Act→World→Prop) (a:Act) (w:World),St n F w [] [] a w→(∀ b∈B,(bkH b).p w)→(∀ a',a'=a.put (some d') v→Nat.blt d' n=true→Q .normal a' w)→wpList P l.toArray Q [⟨some d',op,ty,pos,af,some (j,b)⟩] a w:=λh hy=>by
   unfold zH9 at h
   dsimp only at h
   cases hb:Nat.blt d' n with
   | false=>rw [hb] at h;cases h
   | true =>
     rw [hb] at h
     refine ⟨undef,ann,h,λQ a w hs hB hK=>?_⟩
     simp only [wpList,Region.wanted,hy a w hs,Bool.false_eq_true,if_false]
     exact hK _ rfl rfl
 have yl : ∀ {j t : Nat} {v : Value} {oj : Oper}, l.toArray[j]? = some oj → oj.dst = some t → lk F t = some v → ∀ (a : Act) (w : World), St n F w [] [] a w → yielded l.toArray a.tmps j = match v with
     | .bool b=>some b
     | _=>none:=λhj hoj hv a w hs=>by
   have hg:=hs.agr _ _ hv
   rename_i v _
   simp only [yielded,hj,hoj,Option.bind_some,hg]
   cases v<;>rfl
 unfold zPQ at h
 split at h
 · rename_i heq
   simp only [Oper.mk.injEq] at heq
   obtain ⟨rfl,rfl,rfl,rfl,rfl,rfl⟩:=heq
   exact exec h
 · rename_i d2 op2 ty2 pos2 af2 j b heq
   simp only [Oper.mk.injEq] at heq
   obtain ⟨rfl,rfl,rfl,rfl,rfl,rfl⟩:=heq
   split at h
   case h_2=>cases h
   rename_i t ht
   obtain ⟨oj,hj,hoj⟩:=zNu ht
   have on:∀ {b:Bool} {c:Kt},lk F t=some (.bool b)→zHr P n F B ann (some d') op c→∃ v ann',c ((d',v)::F) B ann'∧∀ (Q:Exit→Act→World→Prop) (a:Act) (w:World),St n F w [] [] a w→(∀ b∈B,(bkH b).p w)→(∀ a',a'=a.put (some d') v→Nat.blt d' n=true→Q .normal a' w)→wpList P l.toArray Q [⟨some d',op,ty,pos,af,some (j,b)⟩] a w:=λhv h=>by
     obtain ⟨v,ann',hc,hr⟩:=exec h
     exact ⟨v,ann',hc,λQ a w hs hB hK=>zC hs hj hoj hv (hr Q a w hs hB hK)⟩
   split at h
   · rename_i hv
     split at h
     · exact on hv h
     · exact und h λa w hs=>by rw [yl hj hoj hv a w hs];rfl
   · rename_i hv
     split at h
     · exact on hv h
     · exact und h λa w hs=>by rw [yl hj hoj hv a w hs];rfl
   · rename_i vs hv
     split at h
     · exact und h λa w hs=>by rw [yl hj hoj hv a w hs];rfl
     · cases h
   · cases h
def KV (Ds:List OS) (k:Nat) (v:Value):Prop:=∀ vs,(zAa Ds k).vp ((zAa Ds k).m k vs)→vs k=v
theorem zZa {k:Nat} {v:Value} {X:List HA} {us dp:List Nat} {N:(Nat→Value)→List HA} (h:zAa Ds k=⟨X,us,dp,λvs=>vs k=v,N,none⟩):KV Ds k v:=λvs hv=>by
 rw [h] at hv;simpa [OS.m] using hv
theorem zNa {Fi:List (Nat×Value)} {G:List (Nat×Value)} {w1:World} (hs:St n G w1 S M a w) (h:∀ p∈Fi,a.tmps[p.1]? = some p.2):St n (Fi++G) w1 S M a w:=by
 induction Fi with
 | nil=>exact hs
 | cons p r ih=>exact (ih λq hq=>h q (by simp [hq])).learn (h p (by simp))
theorem zUL {i:Nat} {Fi:List (Nat×Value)} {rest:List HA} {vs:Nat→Value} (hF:∀ p∈Fi,∃ k,TW l i k∧KV Ds k p.2∧zHP l k=some p.1) (ht:∀ k,TW l i k→zTR l Ds rest vs i k a):∀ p∈Fi,a.tmps[p.1]? = some p.2:=λp hp=>by
 obtain ⟨k,h1,h2,h3⟩:=hF _ hp
 have h4:=ht k h1
 rw [← h2 _ h4.2.1]
 exact h4.1.at_ h3
theorem zcg {F R:List (Nat×Value)}:∀ Fi:List (Nat×Value),zFc (F++R) ((Fi++F)++R)
 | []=>.r
 | p::r=>.c (zcg r)
theorem zac {i d' : Nat} {o : Oper} {v : Value} {Fi : List (Nat × Value)} {B : BL} (hd : o.dst = some d')
   (hF:∀ p∈Fi,∃ k,TW l i k∧KV Ds k p.2∧zHP l k=some p.1)
   (hB:∀ (a:Act) (w:World) (rest:List HA) (vs:Nat→Value),Mem w0 S ([]++(M0++rest)) w→(∀ k,TW l i k→zTR l Ds rest vs i k a)→(∀ j,TW l j i→∀ h∈(zAa Ds j).X,h∈rest)→∀ b∈B,(bkH b).p w)
   (hr:∀ (Q:Exit→Act→World→Prop) (a:Act) (w:World),St n (Fi++F) w [] [] a w→(∀ b∈B,(bkH b).p w)→(∀ a',a'=a.put (some d') v→Nat.blt d' n=true→Q .normal a' w)→wpList P l.toArray Q [o] a w) :
   zTV P l n F w0 S M0 Ds i o (Pv i v):=by
 intro a w R rest vs hm hs ht hx
 have h1:=zNa hs (zUL hF ht)
 rw [← List.append_assoc] at h1
 have hsG:St n (Fi++F) w [] [] a w:=⟨h1.size,h1.dfr,λt u hu=>h1.agr t u (by rw [zD6,hu];rfl),Mem.nil w⟩
 refine hr _ a w hsG (hB a w rest vs hm ht λj hj=>(hx j hj).1) λa' ha' hb=>?_
 subst ha'
 refine ⟨rfl,v,_,hs.bare,.r,?_,by simp [OS.m,zW0]⟩
 rw [hd]
 exact hs.bare.put hb v
theorem zbI {i d : Nat} {o : Oper} {u : Value} {Fi : List (Nat × Value)} (hd : o.dst = some d)
   (hF:∀ p∈Fi,∃ k,TW l i k∧KV Ds k p.2∧zHP l k=some p.1)
   (hr:∀ a w R Q,Mem w0 S M0 w→St n ((Fi++F)++R) w [] [] a w→(∀ a' w',St n ((d,u)::((Fi++F)++R)) w [] [] a' w'→Q .normal a' w')→wpList P l.toArray Q [o] a w) :
   zTV P l n F w0 S M0 Ds i o (Pv i u):=by
 intro a w R rest vs hm hs ht hx
 have h1:=zNa hs (zUL hF ht)
 rw [← List.append_assoc] at h1
 refine hr a w R _ hm.mid h1.bare λa' w' h'=>?_
 refine ⟨rfl,u,_,h1.bare,zcg Fi,?_,by simp [OS.m,zW0]⟩
 rw [hd]
 exact h'
theorem zaL {i : Nat} {o : Oper} {Fi : List (Nat × Value)} {B1 B2 B' : BL} {us : List Nat} (ho : o.dst = none)
   (hF:∀ p∈Fi,∃ k,TW l i k∧KV Ds k p.2∧zHP l k=some p.1) (hus:∀ vs,us.flatMap (λk=>(zAa Ds k).N ((zAa Ds k).m k vs))=bls B2)
   (hr:∀ {R:List (Nat×Value)} {n:Nat} {w0:World} {S:List Nat} {M1:List HA} {a:Act} {w:World} {ops:Array Oper} {Q:Exit→Act→World→Prop},
     St n ((Fi++F)++R) w0 S ((B1++B2).map bkH++M1) a w→(∀ a w,St n ((Fi++F)++R) w0 S (B'.map bkH++M1) a w→Q .normal a w)→wpList P ops Q [o] a w) :
   zTV P l n F w0 S M0 Ds i o ⟨bls B1,us,[],λ_=>True,λ_=>bls B',none⟩:=by
 intro a w R rest vs hm hs ht hx
 have hown:zDV ⟨bls B1,us,[],λ_=>True,λ_=>bls B',none⟩ Ds vs=(B1++B2).map bkH:=by
   unfold zDV;dsimp only;rw [hus vs,zEu,zEu,List.map_append]
 have h1:=zNa hs (zUL hF ht)
 rw [← List.append_assoc] at h1
 refine hr (M1:=[]) (R:=R) (w0:=w) (by rw [List.append_nil,← hown];exact h1) λa' w' h'=>?_
 refine ⟨rfl,.tuple #[],(Fi++F)++R,h1.bare,zcg Fi,?_,trivial⟩
 rw [ho]
 rw [List.append_nil,← zEu] at h'
 exact h'
theorem zWh {i : Nat} {o : Oper} {D : OS} {Fi : List (Nat × Value)} (hN : Nok Ds) (hF : ∀ p ∈ Fi, ∃ k, TW l i k ∧ KV Ds k p.2 ∧ zHP l k = some p.1)
   (h:zZP P l n F (Fi++F) w0 S M0 Ds i o D):zTV P l n F w0 S M0 Ds i o D:=by
 intro a w R rest vs hm hs ht hx
 refine zBX.1 (h a w R rest vs hm) ?_ ht hx
 rw [← zXM hN]
 rw [List.append_assoc]
 exact zNa hs (zUL hF ht)
structure zSL (l:List Oper) (i:Nat) (E:List (Nat×Nat×Value)) (L:List (Nat×BL)) (Ds:List OS):Prop where
 ok:∀ k d v,(k,d,v)∈E→k<i∧zHP l k=some d∧KV Ds k v
 lf:∀ k B,(k,B)∈L→(zAa Ds k).N=λ_=>bls B
structure XOk (Xp:BL) (cs0:List DC) (Ds:List OS):Prop where
 x:∀ j C,cs0[j]? = some C→(zAa Ds j).X=C.X Xp
 u:∀ j k,k∈(zAa Ds j).use→∃ C,cs0[j]? = some C∧k∈C.use
theorem zOO {Xp:BL} {cs0:List DC} (h1:Ds.map (·.X)=cs0.map (·.X Xp)) (h2:Ds.map (·.use)=cs0.map (·.use)):XOk Xp cs0 Ds:=by
 refine ⟨λj C hj=>?_,λj k hk=>?_⟩
 ·have:=congrArg (·[j]?) h1
  simp only [List.getElem?_map,hj,Option.map_some] at this
  unfold zAa
  cases hd:Ds[j]? with
  | none=>rw [hd] at this;cases this
  | some D=>rw [hd] at this;simpa using this
 ·have:=congrArg (·[j]?) h2
  simp only [List.getElem?_map] at this
  unfold zAa at hk
  cases hd:Ds[j]? with
  | none=>rw [hd] at hk;simp [OS.nil] at hk
  | some D =>
   rw [hd] at this hk
   cases hc:cs0[j]? with
   | none=>rw [hc] at this;cases this
   | some C=>rw [hc] at this;exact ⟨C,rfl,by simp only [Option.map_some,Option.some.injEq] at this;rw [← this];simpa using hk⟩
theorem zPF {cs0:List DC} {Xp:BL} {i k:Nat} (hX:XOk Xp cs0 Ds) (h:zXr l cs0 i k=true):∀ j,k∈(zAa Ds j).use→TW l j i:=λj hj=>by
 obtain ⟨C,hC,hk⟩:=hX.u j k hj
 simp only [zXr,List.all_eq_true] at h
 have:=h (C,j) (by rw [List.mem_zipIdx_iff_getElem?];exact hC)
 simp only [Bool.or_eq_true,Bool.not_eq_true'] at this
 rcases this with h1 | h1
 · rw [show List.elem k C.use=true from List.elem_iff.2 hk] at h1;cases h1
 · exact zJ _ _ h1
theorem zPr {R R':List OS} {D:OS} {i:Nat} (hR:R.length=i) (hDs:Ds=(R'++D::R).reverse):zAa Ds i=D:=by
 unfold zAa
 rw [hDs]
 simp only [List.reverse_append,List.reverse_cons,List.append_assoc,List.singleton_append]
 rw [List.getElem?_append_right (by simp [hR]),List.length_reverse,hR]
 simp
theorem zGT {B Xp : BL} {cs0 : List DC} (tk : zDu M0 B M1) : ∀ (r : List Oper) (i : Nat) (cs : List DC) (E : List (Nat × Nat × Value)) (L : List (Nat × BL)) (R : List OS) (c : List (Nat × Nat × Value) → List OS → Prop), zEb P n F w0 S M0 l B Xp cs0 i r cs E L R c → l.drop i = r → R.length = i → zWD l cs0 i cs = true →
   ∃ E' R',c E' (R'++R)∧(∀ p∈E,p∈E')∧R'.length=r.length∧∀ Ds,Ds=(R'++R).reverse→zSL l i E L Ds→zSL l l.length E' [] Ds∧(Nok Ds→XOk Xp cs0 Ds→zDK P l n F w0 S M0 Ds E' i r cs→zHK P l n F w0 S M0 Ds i r R'.reverse)
 | [],i,[],E,L,R,c,h,hr,hR,hd=>by
   refine ⟨E,[],h,λp hp=>hp,rfl,λDs hDs hE=>⟨⟨λk d v hk=>?_,λ_ _ h=>by cases h⟩,λ_ _ _=>.n⟩⟩
   have:=hE.ok k d v hk
   have hl:l.length≤i:=by
     have:=congrArg List.length hr
     simp at this;omega
   refine ⟨?_,this.2⟩
   obtain ⟨o,ho,_⟩:=Option.bind_eq_some_iff.1 this.2.1
   exact (List.getElem?_eq_some_iff.1 ho).1
 | o::r,i,C::cs,E,L,R,c,h,hr,hR,hd=>by
   have hoi:l[i]? = some o:=by
     have:=congrArg List.head? hr
     simpa using this
   have hr':l.drop (i+1)=r:=by rw [← List.drop_drop,hr];rfl
   simp only [zWD,Bool.and_eq_true] at hd
   have one : ∀ (D : OS) (E1 : List (Nat × Nat × Value)) (L1 : List (Nat × BL)), zEb P n F w0 S M0 l B Xp cs0 (i + 1) r cs E1 L1 (D :: R) c → (∀ p ∈ E, p ∈ E1) →
       (∀ Ds,zAa Ds i=D→zSL l i E L Ds→zSL l (i+1) E1 L1 Ds) →
       (∀ Ds E',zAa Ds i=D→zSL l i E L Ds→zSL l l.length E' [] Ds→Nok Ds→XOk Xp cs0 Ds→(∀ p∈E1,p∈E')→zDK P l n F w0 S M0 Ds E' i (o::r) (C::cs)→zTV P l n F w0 S M0 Ds i o D∧zDK P l n F w0 S M0 Ds E' (i+1) r cs) →
       ∃ E' R',c E' (R'++R)∧(∀ p∈E,p∈E')∧R'.length=(o::r).length∧∀ Ds,Ds=(R'++R).reverse→zSL l i E L Ds→zSL l l.length E' [] Ds∧(Nok Ds→XOk Xp cs0 Ds→zDK P l n F w0 S M0 Ds E' i (o::r) (C::cs)→zHK P l n F w0 S M0 Ds i (o::r) R'.reverse):=λD E1 L1 h hE1 hev htr=>by
     obtain ⟨E',R',h1,h2,h3,h4⟩:=zGT tk r (i+1) cs E1 L1 (D::R) c h hr' (by simp [hR]) hd.2
     refine ⟨E',R'++[D],by simpa using h1,λp hp=>h2 p (hE1 p hp),by simp [h3],λDs hDs hE=>?_⟩
     have hDs':Ds=(R'++D::R).reverse:=by simpa using hDs
     have hDi:=zPr hR hDs'
     obtain ⟨h5,h6⟩:=h4 Ds hDs' (hev Ds hDi hE)
     refine ⟨h5,λhN hX hT=>?_⟩
     obtain ⟨h7,h8⟩:=htr Ds E' hDi hE h5 hN hX h2 hT
     rw [List.reverse_append]
     exact .c h7 (h6 hN hX h8)
   have val:∀ {d:Nat} {v:Value} {D:OS} {Ds:List OS},o.dst=some d→KV Ds i v→zSL l i E L Ds→zSL l (i+1) ((i,d,v)::E) L Ds:=λhd hv hE=>⟨λk d u hk=>by
     rcases List.mem_cons.1 hk with hk | hk
     · injection hk with e1 hk;injection hk with e2 e3;subst e1 e2 e3
       exact ⟨by omega,by unfold zHP;rw [hoi];exact hd,hv⟩
     · have:=hE.ok k d u hk;exact ⟨by omega,this.2⟩,hE.lf⟩
   have fi:∀ {Fi:List (Nat×Value)} {E1:List (Nat×Nat×Value)} {L1:List (Nat×BL)} {j:Nat} {Ds:List OS},zSL l j E1 L1 Ds→(∀ p∈Fi,∃ k∈C.deps,(k,p.1,p.2)∈E1)→∀ p∈Fi,∃ k,TW l i k∧KV Ds k p.2∧zHP l k=some p.1:=λhE hF p hp=>by
     obtain ⟨k,hk,hkE⟩:=hF p hp
     have:=hE.ok k p.1 p.2 hkE
     exact ⟨k,zJ _ _ (List.all_eq_true.1 hd.1.1 k hk),this.2.2,this.2.1⟩
   cases C with
   | l ds ann hs ls =>
     unfold zEb at h
     obtain ⟨Fi,hFi,h⟩:=zDx h
     obtain ⟨B1,h,hB1⟩:=zHp h
     obtain ⟨B2,h,_,hB2⟩:=zGe h
     generalize hb:(zL0 o.op && o.dst.isSome)=bb at h
     cases bb with
     | false=>cases h
     | true =>
       simp only [cond_true] at h
       obtain ⟨hb1,hb2⟩:=Bool.and_eq_true_iff.1 hb
       have hrd:=hd.1.2
       simp only [DC.readB,Bool.and_eq_true,List.all_eq_true] at hrd
       obtain ⟨hbh,hbl⟩:=hrd
       obtain ⟨d',hd'⟩:=Option.isSome_iff_exists.1 hb2
       obtain ⟨v,ann',h,hrun⟩:=zQM hd' hb1 h
       refine one (Pv i v) _ L h (λp hp=>by simp [hp]) (λDs hDi hE=>val (D:=Pv i v) hd' (zZa hDi) hE) λDs E' hDi hE h5 hN hX _ hT=>⟨?_,hT⟩
       refine zac hd' (fi hE hFi) (λa w rest vs hm ht hx b hb=>?_) hrun
       rcases List.mem_append.1 hb with hb | hb
       · obtain ⟨j,hj,C,hC,hbC⟩:=hB1 b hb
         exact hm.own (List.mem_append.2 (.inr (hx j (zJ _ _ (hbh j hj)) _ (by rw [hX.x j C hC];exact hbC))))
       · rcases List.mem_append.1 hb with hb | hb
         · obtain ⟨k,hk,B',hL,hbB⟩:=hB2 b hb
           refine hm.own (List.mem_append.2 (.inr ((ht k (zJ _ _ (hbl k hk).1)).2.2 (zPF hX (hbl k hk).2) _ ?_)))
           rw [hE.lf k B' hL,zEu]
           exact List.mem_map.2 ⟨b,hbB,rfl⟩
         · exact hm.mid.all _ (tk.perm.mem_iff.2 (List.mem_append.2 (.inl (List.mem_map.2 ⟨b,hb,rfl⟩))))
   | v ds u =>
     unfold zEb at h
     split at h
     case h_2=>cases h
     rename_i d' hd'
     obtain ⟨Fi,hFi,hrun,h⟩:=zDx h
     exact one (Pv i u) _ L h (λp hp=>by simp [hp]) (λDs hDi hE=>val (D:=Pv i u) hd' (zZa hDi) hE) λDs E' hDi hE h5 hN hX _ hT=>⟨zbI hd' (fi hE hFi) hrun,hT⟩
   | s ds ann xs us =>
     unfold zEb at h
     obtain ⟨Fi,hFi,h⟩:=zDx h
     obtain ⟨B2,h,hus,_⟩:=zGe (zGk h)
     obtain ⟨ho,B',h,hrun⟩:=zPV h
     exact one _ E _ h (fun p hp => hp) (fun Ds hDi hE => ⟨fun k d v hk => by have := hE.ok k d v hk; exact ⟨by omega, this.2⟩, fun k B3 hk => by
         rcases List.mem_cons.1 hk with hk | hk
         · injection hk with e1 e2;subst e1 e2;rw [hDi]
         · exact hE.lf k B3 hk⟩) λDs E' hDi hE h5 hN hX _ hT=>⟨zaL ho (fi hE hFi) (λvs=>hus _ λk B3 hk=>by rw [hE.lf k B3 hk]) hrun,hT⟩
   | y ds v X us dp N =>
     unfold zEb at h
     split at h
     case h_2=>cases h
     rename_i d' hd'
     refine one _ _ L h (λp hp=>by simp [hp]) (λDs hDi hE=>val (D:=OS.nil) hd' (zZa hDi) hE) λDs E' hDi hE h5 hN hX h2 hT=>?_
     simp only [zDK] at hT
     obtain ⟨Fi,hFi,hTr⟩:=zDx hT.1
     exact ⟨zWh hN (fi h5 hFi) hTr,hT.2⟩
   | x ds D =>
     unfold zEb at h
     refine one D E L h (λp hp=>hp) (λDs hDi hE=>⟨λk d v hk=>by have:=hE.ok k d v hk;exact ⟨by omega,this.2⟩,hE.lf⟩) λDs E' hDi hE h5 hN hX h2 hT=>?_
     simp only [zDK] at hT
     obtain ⟨Fi,hFi,hTr⟩:=zDx hT.1
     exact ⟨zWh hN (fi h5 hFi) hTr,hT.2⟩
 | [],_,_::_,_,_,_,_,h,_,_,_=>by unfold zEb at h;cases h
 | _::_,_,[],_,_,_,_,h,_,_,_=>by unfold zEb at h;cases h
def pvF (l:List Oper) (live:List Nat):List (Nat×Nat×Value)→List (Nat×Value)→(List (Nat×Value)→Prop)→Prop
 | [],F,c=>c F
 | (k,d,v)::r,F,c=>bif live.elem k then pvF l live r F λG=>c ((d,v)::G) else pvF l live r F c
theorem zJf {l:List Oper} {live:List Nat} {vs:Nat→Value}:∀ {E:List (Nat×Nat×Value)} {F:List (Nat×Value)} {c:List (Nat×Value)→Prop},pvF l live E F c→∃ G,c G∧∀ {n:Nat} {w0 w:World} {S:List Nat} {M:List HA} {a:Act},(∀ k d v,(k,d,v)∈E→a.tmps[d]? = some v)→St n F w0 S M a w→St n G w0 S M a w
 | [],F,c,h=>⟨F,h,λ_ hs=>hs⟩
 | (k,d,v)::r,F,c,h=>by
  unfold pvF at h
  cases hb:live.elem k with
  | true =>
   rw [hb] at h
   obtain ⟨G,h1,h2⟩:=zJf (E:=r) (vs:=vs) h
   exact ⟨(d,v)::G,h1,λhE hs=>(h2 (λk' d' v' hm=>hE k' d' v' (by simp [hm])) hs).learn (hE k d v (by simp))⟩
  | false =>
   rw [hb] at h
   obtain ⟨G,h1,h2⟩:=zJf (E:=r) (vs:=vs) h
   exact ⟨G,h1,λhE hs=>h2 (λk' d' v' hm=>hE k' d' v' (by simp [hm])) hs⟩
def zZu : List OS→List OS→(List OS→Prop)→Prop
 | [],acc,c=>c acc
 | x::r,acc,c=>zZu r (x::acc) c
theorem zIO : ∀ {r acc:List OS} {c:List OS→Prop},zZu r acc c→c (r.reverse++acc)
 | [],_,_,h=>h
 | x::r,acc,c,h=>by have:=zIO (r:=r) h;simpa using this
def zLM (P:Program) (F:List (Nat×Value)) (l:List Oper) (cs:List DC):Bool:=P.follows .mixedOrders && (zHQ F l && zWD l cs 0 cs)
def zLu (l:List Oper) (Ds:List OS):Bool:=zHH l (Ds.map (·.use)) (Ds.map (·.dep)) && Ds.all λD=>D.was.isNone
theorem zE0 : ∀ (X M:List HA),zGU (X++M) X M
 | [],M=>.n
 | x::X,M=>.c .z (zE0 X M)
theorem vk {ops:Array Oper} {Q:Exit→Act→World→Prop} {w1:World} (K:∀ a w,St n F w1 S M a w→Q .normal a w):∀ a w,St n F w1 S M a w→wpList P ops Q [] a w:=λa w hs=>wpList_nil (K a w hs)
def dcs (a b:List DC):List DC:=a++b
theorem zAQ {id : Nat} {l : List Oper} {X Mp : List HA} {B Xp : BL} {fr : List Fr} (cs : List DC) (live : List Nat) (hs : St n F w0 S M a w) (tx : zDu M Xp Mp) (hd : zGU Mp X M0) (tk : zDu M0 B M1) (hb : zLM P F l cs = true)
   (h:zEb P n F w0 S M0 l B Xp cs 0 l cs [] [] [] λE R=>zZu R [] λDs=>(zGU (bls Xp++X) (Ds.flatMap (·.X)) []∧zLu l Ds=true∧(∀ vs,Nsm vs 0 Ds=Ds.map (·.N vs))∧Ds.map (·.X)=cs.map (·.X Xp)∧Ds.map (·.use)=cs.map (·.use))∧zDK P l n F w0 S M0 Ds E 0 l cs ∧
     pvF l live E F λG=>∀ vs,zGg (M0++zTP (Ds.flatMap (·.use)) vs 0 Ds) λM'=>∀ a w,St n G w0 S M' a w→(∀ i,i<l.length→zBz l i (vs i) a∧(zAa Ds i).vp ((zAa Ds i).m i vs))→stk P Q fr .normal a w):G P Q (.code (.region id l.toArray true) fr) a w:=by
 simp only [zLM,Bool.and_eq_true] at hb
 obtain ⟨hm,hb⟩:=hb
 obtain ⟨E',R',h1,_,h3,h4⟩:=zGT tk l 0 cs [] [] [] _ h rfl rfl hb.2
 rw [List.append_nil] at h1 h4
 have h1:=zIO h1
 rw [List.append_nil] at h1
 obtain ⟨⟨hX,hu,hN,hx1,hx2⟩,hT,hfin⟩:=h1
 simp only [zLu,Bool.and_eq_true] at hu
 obtain ⟨hE,htr⟩:=h4 _ rfl ⟨(λk d v hk=>by cases hk),λk B hk=>by cases hk⟩
 replace htr:=htr (zNV hN) (zOO hx1 hx2) hT
 obtain ⟨GF,hg1,hg2⟩:=zJf (vs:=λ_=>undef) hfin
 have hp:M.Perm ((R'.reverse.flatMap (·.X))++M0):=by
   have h5:=hX.permL
   rw [List.append_nil,zEu] at h5
   have h6:=tx.perm.trans (List.Perm.append_left _ hd.permL)
   rw [← List.append_assoc] at h6
   exact h6.trans (List.Perm.append_right _ h5)
 refine zN3 hm (hs.permM hp) rfl (zE0 _ _) hb.1 hu.1 hu.2 htr λa w vs hs hf=>zBX.1 (hg1 vs) a w (hg2 (λk d v hk=>?_) (zIY (hN vs) ▸ hs)) hf
 obtain ⟨e1,e2,e3⟩:=hE.ok k d v hk
 obtain ⟨f1,f2⟩:=hf k e1
 rw [← e3 vs f2]
 exact f1.at_ e2
theorem zO {id : Nat} {l : List Oper} {Mp : List HA} {B Xp : BL} {fr : List Fr} (cs : List DC) (live : List Nat) (hs : St n F w0 S M a w) (tx : zDu M Xp Mp) (tk : zDu Mp B M1) (hb : zLM P F l cs = true)
   (h:zEb P n F w0 S Mp l B Xp cs 0 l cs [] [] [] λE R=>zZu R [] λDs=>(Ds.flatMap (·.X)=bls Xp∧zLu l Ds=true∧(∀ vs,Nsm vs 0 Ds=Ds.map (·.N vs))∧Ds.map (·.X)=cs.map (·.X Xp)∧Ds.map (·.use)=cs.map (·.use)∧zDK P l n F w0 S Mp Ds E 0 l cs) ∧
     pvF l live E F λG=>zGg (Mp++zTP (Ds.flatMap (·.use)) (λ_=>undef) 0 Ds) λM'=>(∀ vs,Mp++zTP (Ds.flatMap (·.use)) vs 0 Ds=M')∧∀ a w,St n G w0 S M' a w→stk P Q fr .normal a w):G P Q (.code (.region id l.toArray true) fr) a w:=by
 simp only [zLM,Bool.and_eq_true] at hb
 obtain ⟨hm,hb⟩:=hb
 obtain ⟨E',R',h1,_,h3,h4⟩:=zGT tk l 0 cs [] [] [] _ h rfl rfl hb.2
 rw [List.append_nil] at h1 h4
 have h1:=zIO h1
 rw [List.append_nil] at h1
 obtain ⟨⟨hX,hu,hN,hx1,hx2,hT⟩,hfin⟩:=h1
 simp only [zLu,Bool.and_eq_true] at hu
 obtain ⟨hE,htr⟩:=h4 _ rfl ⟨(λk d v hk=>by cases hk),λk B hk=>by cases hk⟩
 replace htr:=htr (zNV hN) (zOO hx1 hx2) hT
 obtain ⟨GF,hg1,hg2⟩:=zJf (vs:=λ_=>undef) hfin
 obtain ⟨he,hg1⟩:=zBX.1 hg1
 have hp:M.Perm ((R'.reverse.flatMap (·.X))++Mp):=by rw [hX,zEu];exact tx.perm
 refine zN3 hm (hs.permM hp) rfl (zE0 _ _) hb.1 hu.1 hu.2 htr λa w vs hs hf=>?_
 rw [zIY (hN vs),he vs] at hs
 refine hg1 a w (hg2 (λk d v hk=>?_) hs)
 obtain ⟨e1,e2,e3⟩:=hE.ok k d v hk
 obtain ⟨f1,f2⟩:=hf k e1
 rw [← e3 vs f2]
 exact f1.at_ e2
end Go.Sx
