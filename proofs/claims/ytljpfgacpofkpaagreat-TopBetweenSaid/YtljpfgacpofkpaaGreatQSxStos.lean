import Derived.Test.YtljpfgacpofkpaaGreatQSxMap
import Derived.Test.YtljpfgacpofkpaaGreatQSxDel
import Derived.RangeFuncRecord
import Derived.RangeFuncLeaves
import Derived.RangeFuncIn
import Derived.RangeFuncSeq
import Derived.TacticsIn
import Derived.Shelf.Spec.SlicesInsertGrow
import Derived.Deep.RegionLaw
import Derived.Deep.LoopGhost
import Derived.Test.YtljpfgacpofkpaaGreatQSxBasB
import Derived.Test.YtljpfgacpofkpaaGreatQSxGrams
set_option linter.unusedVariables false
set_option linter.unusedSimpArgs false
namespace Go.Sx
open Go.RowKit
variable {P : Program} {ops : Array Oper} {Q : Exit → Act → World → Prop} {rest : List Oper} {n : Nat} {F : List (Nat × Value)} {w0 : World} {S : List Nat} {M : List HA} {a : Act} {w : World}
variable {d : Nat} {ty : TypeId} {pos : String} {af : Array Edge}
abbrev zMt (r:zS):Value:=.agg #[.int .i64 r.id,.int .i64 r.p0,.int .i64 r.p1,.int .i64 r.p2,.int .i64 r.v0,.int .i64 r.v1,.int .i64 r.v2,.int .u16 ((r.a.toNat:Nat):Int),.int .u8 ((r.g.toNat:Nat):Int)]
def zVp : Int×Value→zS
 | (_,.agg c)=>match c.toList with
  | [.int _ a,.int _ b,.int _ c,.int _ d,.int _ e,.int _ f,.int _ g,.int _ h,.int _ i]=>⟨a,b,c,d,e,f,g,BitVec.ofInt 16 h,BitVec.ofInt 8 i⟩
  | _=>zAA
 | _=>zAA
theorem zT2 (e:zS):zVp (e.id,.agg (zBI e).toArray)=e:=by
 cases e
 simp [zVp,zBI]
theorem zWl (l:List zS):(ekv l).map zVp=l:=by
 unfold ekv
 rw [List.map_map]
 exact (List.map_congr_left (λx _=>zT2 x)).trans (List.map_id _)
theorem zVJ {l l':List zS} (h:(ekv l).Perm (ekv l')):l.Perm l':=by
 have:=h.map zVp
 rwa [zWl,zWl] at this
theorem zQ5 {t:TypeId} (hs:St n F w0 S M a w) (hd:Nat.blt d n=true)
 (k:∀ g a w,St n ((d,.map (some g))::F) w0 S (mpr g (ekv [])::M) a w→wpList P ops Q rest a w):wpList P ops Q (⟨some d,.makeMap t none,ty,pos,af,none⟩::rest) a w:=zHb hs hd k
theorem zOZ {t kt e : TypeId} {m x : Operand} {g : Nat} {k : Int} {l : List zS} {M' : List HA} (hs : St n F w0 S M a w) (hm : evo F m = some (.map (some g))) (hx : evo F x = some (.int .i64 k)) (hb : Del M (mpr g (ekv l)) M')
   (ht:P.underlying t=some (.map kt e)) (hkt:P.underlying kt=some (.int .i64)) (hz:∀ w,(zeroValue e).run P w = .ok (zMt zAA) w) (hd:Nat.blt d n=true)
   (c:∀ a w,St n ((d,.tuple #[zMt ((zT k l).getD zAA),.bool (zT k l).isSome])::F) w0 S M a w→wpList P ops Q rest a w):wpList P ops Q (⟨some d,.lookup t m x true,ty,pos,af,none⟩::rest) a w:=by
 refine zRV hs hm hx hb ht hkt hz hd ?_
 rw [zNt]
 cases h:zT k l with
 | none=>rw [h] at c;exact c
 | some e=>rw [h] at c;exact c
theorem zMs {t kt e : TypeId} {m x y : Operand} {g : Nat} {k : Int} {u : zS} {l : List zS} {M' : List HA} (hs : St n F w0 S M a w) (hm : evo F m = some (.map (some g))) (hx : evo F x = some (.int .i64 k)) (hy : evo F y = some (zMt u)) (hb : Del M (mpr g (ekv l)) M') (hk : u.id = k)
   (ht:P.underlying t=some (.map kt e)) (hkt:P.underlying kt=some (.int .i64))
   (c:∀ a w,St n F w0 S (mpr g (ekv (zIa u l))::M') a w→wpList P ops Q rest a w):wpList P ops Q (⟨none,.mapUpdate t m x y,ty,pos,af,none⟩::rest) a w:=by
 refine zbm hs hm hx (u:=.agg (zBI u).toArray) hy hb ht hkt ?_
 rw [zOJ hk]
 exact c
theorem zSK {t kt e : TypeId} {m x : Operand} {g : Nat} {k : Int} {l : List zS} {M' : List HA} {tt : Array TypeId} (hs : St n F w0 S M a w) (hm : evo F m = some (.map (some g))) (hx : evo F x = some (.int .i64 k)) (hb : Del M (mpr g (ekv l)) M')
   (ht:P.underlying t=some (.map kt e)) (hkt:P.underlying kt=some (.int .i64)) (htt:tt[0]? = some t)
   (c:∀ a w,St n F w0 S (mpr g (ekv (zFp k l))::M') a w→wpList P ops Q rest a w):wpList P ops Q (⟨none,.call { callee:=.builtin .delete,args:=#[m,x],argTypes:=tt },ty,pos,af,none⟩::rest) a w:=by
 refine zXg hs hm hx hb ht hkt htt ?_
 rw [zOd]
 exact c
theorem zXW {t kt e : TypeId} {m : Operand} {g : Nat} {l : List zS} {M' : List HA} (hs : St n F w0 S M a w) (hm : evo F m = some (.map (some g))) (hb : Del M (mpr g (ekv l)) M') (ht : P.underlying t = some (.map kt e)) (hd : Nat.blt d n = true)
   (c:∀ a w,St n ((d,.int .i64 ((l.length:Nat):Int))::F) w0 S M a w→wpList P ops Q rest a w):wpList P ops Q (⟨some d,.call { callee:=.builtin .len,args:=#[m],argTypes:=#[t] },ty,pos,af,none⟩::rest) a w:=by
 refine zXl hs hm hb ht hd ?_
 rw [zMn]
 exact c
theorem zKy {t kt e:TypeId} {m:Operand} {g:Nat} {l:List zS} {M':List HA} (hs:St n F w0 S M a w) (hm:evo F m=some (.map (some g))) (hb:Del M (mpr g (ekv l)) M') (ht:P.underlying t=some (.map kt e)) (hd:Nat.blt d n=true)
 (c:∀ it a w,St n ((d,.pointer (some ⟨it,0,none⟩))::F) w0 S (mit g it (ekv l) (ekv [])::M') a w→wpList P ops Q rest a w):wpList P ops Q (⟨some d,.range t m,ty,pos,af,none⟩::rest) a w:=zSW hs hm hb ht hd c
theorem zOA {x : Operand} {g it : Nat} {l done : List zS} {M' : List HA} (hs : St n F w0 S M a w) (hx : evo F x = some (.pointer (some ⟨it, 0, none⟩))) (hb : Del M (mit g it (ekv l) (ekv done)) M') (hd : Nat.blt d n = true)
   (c0:done.Perm l→∀ a w,St n ((d,.tuple #[.bool false])::F) w0 S (mit g it (ekv l) (ekv done)::M') a w→wpList P ops Q rest a w)
   (c1:∀ x,x∈l→done.length<l.length→∀ a w,St n ((d,.tuple #[.bool true,.int .i64 x.id,zMt x])::F) w0 S (mit g it (ekv l) (ekv (done++[x]))::M') a w→wpList P ops Q rest a w) :
   wpList P ops Q (⟨some d,.next x false,ty,pos,af,none⟩::rest) a w:=by
 refine zUF hs hx hb hd (λh=>c0 (zVJ h)) ?_
 intro k v hm hl
 rw [zMn,zMn] at hl
 obtain ⟨e,he,hq⟩:=List.mem_map.1 hm
 cases hq
 have:=c1 e he hl
 rw [show ekv (done++[e])=ekv done++[(e.id,.agg (zBI e).toArray)] by simp [ekv]] at this
 exact this
theorem zLp {x : Operand} {g it : Nat} {l done : List zS} {e : zS} {M' : List HA} (hs : St n F w0 S M a w) (hx : evo F x = some (.pointer (some ⟨it, 0, none⟩))) (hb : Del M (mit g it (ekv l) (ekv (done ++ [e]))) M') (hd : Nat.blt d n = true)
   (c:∀ a w,St n ((d,.tuple #[.int .i64 e.id,zMt e])::F) w0 S M a w→wpList P ops Q rest a w):wpList P ops Q (⟨some d,.entry x,ty,pos,af,none⟩::rest) a w:=by
 rw [show ekv (done++[e])=ekv done++[(e.id,.agg (zBI e).toArray)] by simp [ekv]] at hb
 exact zP0 hs hx hb hd c
def zFs : Value→Value
 | .tuple vs=>match vs.toList with | x::_=>x | []=>.bool false
 | _=>.bool false
theorem St.remap {g:Nat} {l l':List zS} {M':List HA} (hs:St n F w0 S M a w) (hb:Del M (mpr g (ekv l)) M') (e:l=l'):St n F w0 S (mpr g (ekv l')::M') a w:=by
 subst e
 refine hs.frame (N:=[mpr g (ekv l)]) (.c hb .n) ⟨Chg.refl _ _,by intro h hh;simp only [List.mem_singleton] at hh;subst hh;exact hs.mem.del hb,by simp [zN,mpr],λk hk=>.inl hk⟩
theorem Mem.ndX {M' X:List HA} (h:Mem w0 S M w) (dl:zC5 M X M'):(zN X).Nodup:=(List.nodup_append.1 (dl.perm.nodup_iff.1 h.nd)).1
theorem Mem.allX {w0 w:World} {S:List Nat} {M X M':List HA} (h:Mem w0 S M w) (d:zC5 M X M'):∀ y∈X,y.p w:=λy hy=>h.all y ((d.mem y).2 (.inl hy))
theorem zUf {α:Type} {o:Option α} (h:o.isSome=false):o=none:=by cases o<;>simp_all
theorem zNI {α:Type} {o:Option α} (h:o.isSome=true):∃ x,o=some x:=Option.isSome_iff_exists.1 h
variable {P : Program} {ops : Array Oper} {Q : Exit → Act → World → Prop} {rest : List Oper} {n : Nat} {F : List (Nat × Value)} {w0 : World} {S : List Nat} {M : List HA} {a : Act} {w : World}
variable {d : Nat} {ty : TypeId} {pos : String} {af : Array Edge}
def obj (g:Nat) (o:Obj):HA where
 foot:=[g]
 p w:=w.heap[g]? = some o
 loc w w' h hp:=by rw [h g (by simp)];exact hp
 lt w h k hk:=by
  have:k=g:=by simpa using hk
  subst this
  exact (Array.getElem?_eq_some_iff.1 h).1
def zFy (M:List HA):HA where
 foot:=zN M
 p w:=(∀ h∈M,h.p w)∧(zN M).Nodup
 loc w w' hk hp:=⟨λh hh=>h.loc w w' (λk hkf=>hk k (List.mem_flatMap.2 ⟨h,hh,hkf⟩)) (hp.1 h hh),hp.2⟩
 lt w h k hk:=by obtain ⟨y,hy,hk⟩:=List.mem_flatMap.1 hk;exact y.lt w (h.1 y hy) k hk
theorem zBw (M:List HA):zN [zFy M]=zN M:=by simp [zN,zFy]
theorem zWt {M:List HA} (h:(zFy M).p w):Mem w (zN [zFy M]) M w:=by rw [zBw];exact Mem.start h.1 rfl h.2
theorem Mem.sep {w':World} (h:Mem w S M w'):Mem w S [zFy M] w':=⟨h.chg,by intro h' hh;simp only [List.mem_singleton] at hh;subst hh;exact ⟨h.all,h.nd⟩,by rw [zBw];exact h.nd,by rw [zBw];exact h.ge⟩
theorem zDa {g:Nat} {o o':Obj} (h:w.heap[g]? = some o):Mem w (zN [obj g o]) [obj g o'] (w.putObj g o'):=by
 have hlt:=(Array.getElem?_eq_some_iff.1 h).1
 refine ⟨⟨rfl,rfl,rfl,by simp,λk hk hS=>World.putObj_heap_other (by simpa [zN,obj] using hS)⟩,?_,by simp [zN,obj],λk hk=>.inl (by simpa [zN,obj] using hk)⟩
 intro y hy
 simp only [List.mem_singleton] at hy
 subst hy
 exact World.putObj_heap_same hlt
theorem zFQ (w:World) (o:Obj):Mem w (zN []) [obj w.heap.size o] (w.alloc o):=by
 refine ⟨⟨rfl,rfl,rfl,by simp,λk hk _=>heap_alloc_old w _ hk⟩,?_,by simp [zN,obj],λk hk=>.inr (by simp [zN,obj] at hk;omega)⟩
 intro h hh
 simp only [List.mem_singleton] at hh
 subst hh
 exact World.alloc_heap_new w o
abbrev Fw (r:Option Nat):Fence:={ Fence.wide with round:=r }
def zPH (l:List Oper):Prop:=∀ o∈l,∀ c,o.op ≠ .defer c
theorem zGu {r : Option Nat} {m : Nat} {l2 : List Oper} (hQ : ∀ a w, ¬ Q .outgrown a w) : ∀ (l1 : List Oper) (a : Act) (w : World), zPH l1 →
   wpList P ops (λe a w=>match e with | .normal=>wpListIn (Fw r) m P ops Q l2 a w | e=>Q e a w) l1 a w→wpListIn (Fw r) m P ops Q (l1++l2) a w:=by
 intro l1
 induction l1 with
 | nil=>intro a w _ h;exact h
 | cons o l1 ih =>
   intro a w hd h
   have ih':=λa w=>ih a w (λo ho=>hd o (by simp [ho]))
   simp only [wpList] at h
   show wpListIn (Fw r) m P ops Q (o::(l1++l2)) a w
   simp only [wpListIn]
   by_cases hw:Region.wanted o (yielded ops a.tmps)=true
   · rw [if_pos hw] at h ⊢
     rcases h with h | ⟨_,a0,w0,h0⟩
     · refine ⟨λ_ _=>trivial,?_⟩
       rw [Oper.semAt_eq _ _ _ (hd o (by simp))]
       unfold Oper.wp at h
       generalize (execOp a.eval o).run P w=x at h
       cases x with
       | ok nx w' =>
         cases nx with
         | value v=>exact ih' _ _ h
         | skip=>exact ih' _ _ h
         | defer dd=>exact ih' _ _ h
         | enter f args =>
           have h:Calls P f args w' _:=h
           refine ⟨λhx=>(by cases hx),?_⟩
           refine CallsIn.mono (callsIn_wide.2 h) ?_
           intro e w'' he
           cases e with
           | returned v=>exact ih' _ _ he
           | panicked ch=>exact he
           | outgrown=>obtain ⟨a1,w1,h1⟩:=he;exact absurd h1 (hQ a1 w1)
         | row row args =>
           have h:Rows P row args w' _:=h
           refine ⟨λhx=>(by cases hx),λc cs _=>?_⟩
           obtain ⟨v,w'',hv,hs⟩:=h c cs
           exact ⟨v,w'',ih' _ _ hv,stepsIn_wide.2 hs⟩
         | _=>exact h.elim
       | halt hl w' =>
         cases hl with
         | panic v=>exact h
         | _=>exact h.elim
     · exact absurd h0 (hQ a0 w0)
   · rw [if_neg hw] at h ⊢
     exact ⟨λ_ _=>trivial,ih' _ _ h⟩
theorem zSG {r:Option Nat} {m:Nat} {l:List Oper} (hQ:∀ a w,¬ Q .outgrown a w) (hd:zPH l) (h:wpList P ops Q l a w):wpListIn (Fw r) m P ops Q l a w:=by
 have:=zGu (P:=P) (ops:=ops) (Q:=Q) (r:=r) (m:=m) (l2:=[]) hQ l a w hd (by
  have e:(λe a w=>match e with | .normal=>wpListIn (Fw r) m P ops Q [] a w | e=>Q e a w:Exit→Act→World→Prop)=Q:=by
   funext e a w
   cases e<;>rfl
  rw [e]
  exact h)
 simpa using this
theorem zBn {r:Option Nat} {m id:Nat} {l:List Oper} (hQ:∀ a w,¬ Q .outgrown a w) (hd:zPH l) (h:wpList P l.toArray Q l a w):(Code.region id l.toArray false).wpIn (Fw r) m P Q a w:=wpIn_region_lit (zSG hQ hd h)
theorem zUg {m L : Nat} {x : Operand} {xs : List Operand} {ats : Array TypeId} {vs : List Value} {X M' : List HA} {post : List HA → Prop} (hs : St n F w0 S M a w) (hx : evo F x = some (.func (.yield L) #[] #[])) (hv : Evs F xs vs) (hX : zC5 M X M')
   (hy:∀ W:World,(∀ h∈X,h.p W)→(zN X).Nodup→YieldAt Fence.wide (m-1) P L vs.toArray W λe W'=>e = .returned (.bool true)∧∃ N,post N∧Mem W (zN X) N W') (hd:Nat.blt d n=true)
   (k:∀ N a w,post N→St n ((d,.bool true)::F) w0 S (N++M') a w→wpListIn (Fw none) m P ops Q rest a w):wpListIn (Fw none) m P ops Q (⟨some d,.call { callee:=.value x,args:=xs.toArray,argTypes:=ats },ty,pos,af,none⟩::rest) a w:=by
 have hall:∀ h∈X,h.p w:=λh hh=>hs.mem.all h ((hX.mem h).2 (.inl hh))
 have hnd:(zN X).Nodup:=(List.nodup_append.1 (hX.perm.nodup_iff.1 hs.mem.nd)).1
 obtain ⟨fn,tmps,assign,body,hy1,hy2⟩:=hy w hall hnd
 have hr:(execOp a.eval ⟨some d,.call { callee:=.value x,args:=xs.toArray,argTypes:=ats },ty,pos,af,none⟩).run P w = .ok (.round L fn tmps assign body) w:=by
   simp [execOp,resolve,invoke,Deferred.ofValue,hs.ev hx,hs.evs hv,hy1]
 simp only [wpListIn]
 rw [if_pos (by simp [Region.wanted])]
 refine ⟨λ_ _=>trivial,?_⟩
 have hr':(Oper.semAt (Fw none).round a.eval ⟨some d,.call { callee:=.value x,args:=xs.toArray,argTypes:=ats },ty,pos,af,none⟩).run P w = .ok (.round L fn tmps assign body) w:=hr
 rw [hr',Oper.uponIn_round]
 refine ⟨λhx=>(by cases hx),RoundIn.mono hy2 ?_⟩
 rintro e W' ⟨rfl,N,hp,hm⟩
 exact k N _ _ hp ((hs.frame hX hm).put hd _)
def Rec (rec:LoopState→Loop) (fn:FuncId) (tmps:Array Value) (ps:Array Tmp) (assign body:Code) (D:Nat):Prop:=∀ s,rec s={ state:=s,pending:=none,fn,tmps,params:=ps,assign,body,defers:=D }
theorem zL6 {m gf : Nat} {g : Operand} {ps : Array Tmp} {assign body : Code} {lb : List Value} (hs : St n F w0 S M a w) (hg : evo F g = some (.func (.func gf) #[] lb.toArray)) (eg : ∀ args w, (callFunc gf args).run P w = .ok (.enter gf args) w)
   (h:∀ fn D L W rec,Rec rec fn a.tmps ps assign body D→Mem w0 S (obj L (.loop (rec .ready))::obj D (.deferred (some []))::M) W →
     Calls P gf (.func (.yield L) #[] #[]::lb).toArray W λe W'=>(∃ v,e = .returned v)∧∃ M2,Mem w0 S (obj L (.loop (rec .ready))::obj D (.deferred (some []))::M2) W' ∧
       ∀ W'',Mem w0 S (obj L (.loop (rec .exhausted))::obj D (.deferred (some []))::M2) W''→Q .normal { a with defers:={ target:=.collected D,args:=#[] }::a.defers } W'') :
   (Code.rangeFunc g ps assign body).wpIn (Fw none) m P Q a w:=by
 refine wpIn_rangeFunc λfn _=>?_
 have h1:=hs.mem.frame (zC5.n (M:=M)) (zFQ w (.deferred (some [])))
 have h2:=h1.frame (zC5.n (M:=[obj w.heap.size (.deferred (some []))]++M)) (zFQ (w.alloc (.deferred (some []))) (.loop { state:=.ready,pending:=none,fn,tmps:=a.tmps,params:=ps,assign,body,defers:=w.heap.size }))
 rw [World.size_alloc] at h2
 have he:=run_enterLoop_outer (P:=P) (w:=w) fn a.tmps ps assign body
 generalize (w.alloc (.deferred (some []))).alloc (.loop { state:=.ready,pending:=none,fn:=fn,tmps:=a.tmps,params:=ps,assign:=assign,body:=body,defers:=w.heap.size })=W1 at h2 he
 obtain ⟨rec,hrec⟩ : ∃ rec:LoopState→Loop,Rec rec fn a.tmps ps assign body w.heap.size:=⟨λs=>{ state:=s,pending:=none,fn,tmps:=a.tmps,params:=ps,assign,body,defers:=w.heap.size },λ_=>rfl⟩
 rw [← hrec .ready] at h2
 have hc:=h fn w.heap.size (w.heap.size+1) _ rec hrec h2
 refine ⟨w.heap.size+1,[{ target:=.collected w.heap.size,args:=#[] }],W1,{ target:=.fn (.func gf) lb.toArray,args:=#[.func (.yield (w.heap.size+1)) #[] #[]] },W1,gf,(.func (.yield (w.heap.size+1)) #[] #[]::lb).toArray,W1,he,?_,λ_ _=>trivial,?_,λhx=>(by cases hx),?_⟩
 · have hge:=hs.ev hg
   have hce:a.eval (.const (.func (.yield (w.heap.size+1)) #[] #[])) = .func (.yield (w.heap.size+1)) #[] #[]:=rfl
   simp [resolve,Deferred.ofValue,hge,hce]
 · simp [invoke,eg]
 · refine CallsIn.mono (callsIn_wide.2 hc) ?_
   rintro e W' ⟨⟨v,rfl⟩,M2,hm,hq⟩
   have hl:=hm.all _ (List.mem_cons_self)
   have hr:=run_endLoop (P:=P) hl (by rw [hrec];simp)
   have hx:({ rec .ready with state:=.exhausted }:Loop)=rec .exhausted:=by rw [hrec,hrec]
   rw [hx] at hr
   have hp:(rec .ready).pending=none:=by rw [hrec]
   rw [hp] at hr
   exact ⟨none,_,hr,hq _ (hm.frame (.c .z .n) (zDa hl))⟩
def zSJ : List Oper→Bool
 | []=>true
 | o::l=>(match o.op with | .defer _=>false | _=>true) && zSJ l
theorem zA3 : ∀ {l:List Oper},zSJ l=true→zPH l
 | [],_=>λo ho=>by cases ho
 | o::l,h=>by
  simp only [zSJ,Bool.and_eq_true] at h
  intro o' ho c hc
  rcases List.mem_cons.1 ho with e | e
  ·rw [e] at hc;rw [hc] at h;cases h.1
  ·exact zA3 h.2 o' e c hc
theorem zWW {f : FuncId} {fn : Func} {c : Code} {args : List Value} {F0 : List (Nat × Value)} {R : Ending → World → Prop} (hf : P.funcs[f]? = some fn) (hb : fn.body = some c) (hn : fn.ntmps = n) (hle : Nat.ble args.length n = true) (hini : Ini 0 args F0) (hM : Mem w S M w)
   (h:∀ a w',St n F0 w S M a w'→c.wpIn (Fw none) 1 P (bodyPostM (Fw none) 1 P fn R) a w'):Calls P f args.toArray w R:=by
 refine callsIn_wide.1 (callsIn_of_wp_marks (F:=Fw none) (n:=1) hf hb trivial (h _ _ ?_) rfl)
 have hle':args.length≤n:=by simpa using hle
 subst hn
 refine ⟨by simp;omega,rfl,λt v hv=>?_,hM⟩
 obtain ⟨_,h2⟩:=hini.get t v hv
 simp only [Nat.sub_zero] at h2
 have hlt:t<args.length:=by
   rcases Nat.lt_or_ge t args.length with h | h
   · exact h
   · simp [List.getElem?_eq_none h] at h2
 rw [Array.getElem?_append_left (by simpa using hlt)]
 simpa using h2
theorem zJE {m:Nat} {o:Oper} {v:Value} {w':World} (hg:o.guard=none) (hd:∀ c,o.op ≠ .defer c) (hrun:(execOp a.eval o).run P w = .ok (.value v) w') (k:wpListIn (Fw none) m P ops Q rest (a.put o.dst v) w'):wpListIn (Fw none) m P ops Q (o::rest) a w:=by
 simp only [wpListIn]
 rw [if_pos (by simp [Region.wanted,hg])]
 refine ⟨λ_ _=>trivial,?_⟩
 have hr':(Oper.semAt (Fw none).round a.eval o).run P w = .ok (.value v) w':=hrun
 rw [hr']
 exact k
theorem zYQ {x : Operand} {v : Value} {t t2 : TypeId} {g i : Nat} {cs : List Value} {ds : Option Nat} (hx : a.eval x = .pointer (some ⟨g, i, none⟩)) (hb : w.heap[g]? = some (.cells cs.toArray t2 (0, 0))) (hv : Nth cs i v)
   (hag:∀ w,(isAgg t).run P w = .ok false w):(execOp a.eval ⟨ds,.load t x,ty,pos,af,none⟩).run P w = .ok (.value v) w:=by
 have hc:=(zBL (i:=i) hb).trans hv.get
 simp [execOp,Instr.loadAt,Instr.sureAddr,loadVar,hx,hag,run_load,hc]
theorem St.round {p:Nat} (hs:St n F w0 S M a w) (hd:Nat.blt p n=true) (v:Value) {W:World} {S':List Nat} {M':List HA} (hm:Mem W S' M' W):St n ((p,v)::F) W S' M' { tmps:=a.tmps.setIfInBounds p v,defers:=[] } W :=
 ⟨(hs.put hd v).size,rfl,(hs.put hd v).agr,hm⟩
theorem zD7 (A B:List HA):zN (A++[zFy B])=zN (A++B):=by rw [zAs,zAs,zBw]
theorem Mem.unsep {A B:List HA} {w':World} (h:Mem w S (A++[zFy B]) w'):Mem w S (A++B) w':=by
 refine ⟨h.chg,λy hy=>?_,by rw [← zD7];exact h.nd,by rw [← zD7];exact h.ge⟩
 rcases List.mem_append.1 hy with e | e
 · exact h.all y (by simp [e])
 · exact (h.all (zFy B) (by simp)).1 y e
def zKc (P:Program) (L:Nat) (l:List zS) (R:List zS→HA→Prop):Prop :=
 ∀ (done:List zS) (x:zS) (X:HA) (W:World),R done X→X.p W→X.foot.Nodup→x∈l→done.length<l.length→YieldAt Fence.wide 0 P L #[zMt x] W λe W'=>e = .returned (.bool true)∧∃ N,(∃ X',N=[X']∧R (done++[x]) X')∧Mem W (zN [X]) N W'
theorem zKc.at {L:Nat} {l done:List zS} {R:List zS→HA→Prop} {x:zS} {X:HA} (h:zKc P L l R) (hR:R done X) (hx:x∈l) (hl:done.length<l.length):∀ W:World,(∀ h∈[X],h.p W)→(zN [X]).Nodup→YieldAt Fence.wide (1-1) P L ([zMt x]:List Value).toArray W λe W'=>e = .returned (.bool true)∧∃ N,(∃ X',N=[X']∧R (done++[x]) X')∧Mem W (zN [X]) N W' :=
 λW ha hn=>h done x X W hR (ha X (by simp)) (by simpa [zN] using hn) hx hl
theorem zT0 {L D fn p : Nat} {assign body : Code} {rec : LoopState → Loop} {ps : Array Tmp} {v : Value} {W : World} {S' : List Nat} {Mr : List HA} {post : List HA → Prop} (hs : St n F w0 S M a w) (hrec : Rec rec fn a.tmps ps assign body D) (hps : ps = #[p]) (hd : Nat.blt p n = true)
   (hM:Mem W S' (obj L (.loop (rec .ready))::Mr) W)
   (walk:∀ a1 w1,St n ((p,v)::F) W S' (obj L (.loop (rec .ready))::Mr) a1 w1→assign.wpIn (Fw (some L)) 0 P (Exit.then (λa2 w2=>∃ F2 M2,St n F2 W S' (obj L (.loop (rec .ready))::M2) a2 w2 ∧
     ∀ w3,St n F2 W S' (obj L (.loop (rec .busy))::M2) a2 w3→body.wpIn (Fw (some L)) 0 P (λe _ w4=>e = .normal∧∃ N,post N∧Mem W S' (obj L (.loop (rec .busy))::N) w4) a2 w3) (λ_ _ _=>False)) a1 w1) :
   YieldAt Fence.wide 0 P L #[v] W λe W'=>e = .returned (.bool true)∧∃ N,post N∧Mem W S' (obj L (.loop (rec .ready))::N) W':=by
 subst hps
 have hL:W.heap[L]? = some (.loop (rec .ready)):=hM.all _ (List.mem_cons_self)
 have hy:=run_yield (P:=P) (args:=#[v]) hL (by rw [hrec];rfl)
 rw [hrec] at hy
 have e1:(((#[p]:Array Tmp).zip #[v]).foldl (λtmps (t,a)=>tmps.setIfInBounds t a) a.tmps)=a.tmps.setIfInBounds p v:=by simp
 dsimp only at hy
 rw [e1] at hy
 refine ⟨_,_,_,_,hy,roundIn_of_wpIn trivial ?_⟩
 refine wpIn_mono (walk _ _ (hs.round hd v hM)) ?_
 intro e a2 w2 he
 cases e with
 | normal =>
   obtain ⟨F2,M2,hst,hb⟩:=he
   have hL2:w2.heap[L]? = some (.loop (rec .ready)):=hst.mem.all _ (List.mem_cons_self)
   have hbr:=run_beginRound (P:=P) hL2 (by rw [hrec])
   have ex:({ rec .ready with state:=.busy }:Loop)=rec .busy:=by rw [hrec,hrec]
   rw [ex] at hbr
   refine ⟨_,hbr,wpIn_mono (hb _ (hst.frame (.c .z .n) (zDa hL2))) ?_⟩
   rintro e a4 w4 ⟨rfl,N,hp,hm⟩
   have hL4:w4.heap[L]? = some (.loop (rec .busy)):=hm.all _ (List.mem_cons_self)
   have her:=run_endRound (P:=P) none hL4
   have ey:({ rec .busy with state:=if (none:Option Code).isNone=true then .ready else .done,pending:=none }:Loop)=rec .ready:=by rw [hrec,hrec];rfl
   rw [ey] at her
   exact ⟨_,_,her,rfl,N,hp,hm.frame (.c .z .n) (zDa hL4)⟩
 | exit id=>exact he.elim
 | goto t=>exact he.elim
 | ret=>exact he.elim
 | panic ch=>exact he.elim
 | outgrown=>exact he.elim
theorem Mem.reorder {X:List HA} (h:Mem w0 S M w) (dl:zC5 M X []):Mem w0 S X w:=by
 have hp:=dl.perm
 simp only [zN,List.flatMap_nil,List.append_nil] at hp
 exact ⟨h.chg,λy hy=>h.all y ((dl.mem y).2 (.inl hy)),hp.nodup_iff.1 h.nd,λk hk=>h.ge k (hp.mem_iff.2 hk)⟩
theorem Mem.parts {A B:List HA} (h:Mem w0 S (A++B) w):(∀ y∈A,y.p w)∧(zFy B).p w∧(zN (A++[zFy B])).Nodup:=by
 have hn:=h.nd
 refine ⟨λy hy=>h.all y (by simp [hy]),⟨λy hy=>h.all y (by simp [hy]),?_⟩,by rw [zD7];exact hn⟩
 rw [zAs] at hn
 exact (List.nodup_append.1 hn).2.1
theorem Mem.unsep2 {A B A' B':List HA} {w':World} (h:Mem w (zN (A++[zFy B])) (A'++[zFy B']) w'):Mem w (zN (A++B)) (A'++B') w':=by
 rw [zD7] at h
 exact h.unsep
theorem zJZ {m L:Nat} {args:Array Value} {R R':Ending→World→Prop} (h:YieldAt Fence.wide m P L args w R) (hr:∀ e w',R e w'→R' e w'):YieldAt Fence.wide m P L args w R':=by
 obtain ⟨fn,tmps,assign,body,h1,h2⟩:=h
 exact ⟨fn,tmps,assign,body,h1,h2.mono hr⟩
theorem zay {fn:Func} {R:Ending→World→Prop} {D:Nat} {tmps:Array Value} {v:Value} {t:Nat} (hr:fn.results=#[.tmp t]) (hv:tmps.getD t undef=v) (hD:w.heap[D]? = some (.deferred (some []))) (hR:R (.returned v) (w.putObj D (.deferred none))):bodyPostM (Fw none) 1 P fn R .ret { tmps:=tmps,defers:=[{ target:=.collected D,args:=#[] }] } w:=by
 refine ⟨by simp,.inl ⟨_,_,rfl,run_takeDeferred hD,?_⟩⟩
 exact ⟨_,results_tmp hr _ _ _,by rw [hv];exact hR⟩
section
variable {al bl : List zS} {out : List zY} {i k : Nat}
end
section
variable {was out : List zS} {rl : List zY} {i k : Nat}
end
variable {P : Program}
def zNZ {α:Type} (L:List α) (o:Nat) (cs:List α):List α:=L.take o++(cs++L.drop (o+cs.length))
theorem zHk (b o i:Nat):(⟨b,o,none⟩ : Addr).add i=⟨b,o+i,none⟩:=by unfold Addr.add;split<;>simp_all
theorem zEE {w : World} {g : Nat} {L : List Value} {t : TypeId} {fr : Nat × Nat} (hg : w.heap[g]? = some (.cells L.toArray t fr)) (o : Nat) (cs : List Value) (h : ∀ j v, cs[j]? = some v → L[o + j]? = some v) :
   ∀ j v,cs[j]? = some v→w.cell? ((⟨g,o,none⟩ : Addr).add j)=some v:=by
 intro j v hj
 rw [zHk]
 have:=h j v hj
 simp [World.cell?,hg,this]
theorem zGF (w : World) (dT sT ty elem : TypeId) (k g o dLen dCap : Nat) (ad : Addr) (sLen sCap : Nat) (cur : List Value) (t : TypeId) (cs : List Value) (i : TypeInfo)
   (hu:P.underlying dT=some (.slice elem)) (hi:P.info? elem=some i) (hs:i.size=k)
   (hg:w.heap[g]? = some (.cells cur.toArray t (0,0))) (hn:cs.length=Nat.min sLen dLen*k)
   (hsrc:∀ j v,cs[j]? = some v→w.cell? (ad.add j)=some v) (hfit:o+cs.length≤cur.length) (h1:∀ v∈cs,v.oneCell'=true) :
   (Builtin.copy_ #[dT,sT] ty #[.slice (some ⟨g,o,none⟩) dLen dCap,.slice (some ad) sLen sCap]).run P w =
     .ok (goInt (Nat.min sLen dLen)) (w.setRow g (zNZ cur o cs).toArray):=by
 have hl:=run_loadCells_list (P:=P) w ad cs hsrc
 have hst:=run_storeCells_at P g o t cs 0 cur.toArray w hg (by simpa using hfit) h1
 simp [Builtin.copy_,run_underlying hu,Builtin.lenOf,Builtin.firstCells,sizeOf,typeInfo,hi,hs,← hn,hl,hst,zNZ]
theorem zM8 (w : World) (t ty elem : TypeId) (k g o sLen cap : Nat) (ad : Addr) (m c : Nat) (cur : List Value) (tt : TypeId) (cs : List Value) (i : TypeInfo)
   (hu:P.underlying t=some (.slice elem)) (hi:P.info? elem=some i) (hs:i.size=k)
   (hg:w.heap[g]? = some (.cells cur.toArray tt (0,0))) (hn:cs.length=m*k) (hroom:sLen+m≤cap)
   (hsrc:∀ j v,cs[j]? = some v→w.cell? (ad.add j)=some v) (hfit:o+sLen*k+cs.length≤cur.length) (h1:∀ v∈cs,v.oneCell'=true) :
   (Builtin.append_ #[t,t] ty #[.slice (some ⟨g,o,none⟩) sLen cap,.slice (some ad) m c]).run P w =
     .ok (.slice (some ⟨g,o,none⟩) (sLen+m) cap) (w.setRow g (zNZ cur (o+sLen*k) cs).toArray):=by
 have hl:=run_loadCells_list (P:=P) w ad cs hsrc
 have hst:=run_storeCells_at P g (o+sLen*k) tt cs 0 cur.toArray w hg (by simpa using hfit) h1
 simp [Builtin.append_,run_underlying hu,Builtin.lenOf,Builtin.firstCells,sizeOf,typeInfo,hi,hs,hroom,← hn,hl,zHk,hst,zNZ]
theorem zPL (w : World) (t ty elem : TypeId) (g o n cap : Nat) (cur : List Value) (tt : TypeId) (zs : List Value) (i : TypeInfo) (z : Value)
   (hu:P.underlying t=some (.slice elem)) (hi:P.info? elem=some i) (hz:i.zero=some z) (hzs:(Builtin.zeroCells z.cells n).toList=zs) (hn:0<n)
   (hg:w.heap[g]? = some (.cells cur.toArray tt (0,0))) (hfit:o+zs.length≤cur.length) (h1:∀ v∈zs,v.oneCell'=true) :
   (Builtin.clear_ #[t] ty #[.slice (some ⟨g,o,none⟩) n cap]).run P w = .ok (.tuple #[]) (w.setRow g (zNZ cur o zs).toArray):=by
 have hst:=run_storeCells_at P g o tt zs 0 cur.toArray w hg (by simpa using hfit) h1
 obtain ⟨n,rfl⟩ : ∃ m,n=m+1:=⟨n-1,by omega⟩
 simp [Builtin.clear_,run_underlying hu,zeroValue,typeInfo,hi,hz,hzs,hst,zNZ]
theorem zHT (w : World) {ops : Array Oper} {rest : List Oper} {o : Oper} {a : Act} {Q : Exit → Act → World → Prop} (hgd : o.guard = none) (s : Operand) (t : TypeId)
   (ho:o.op = .call { callee:=.builtin .clear,args:=#[s],argTypes:=#[t] }) (v:Value) (hs:a.eval s=v) {v':Value} {w':World}
   (hr:(Builtin.clear_ #[t] o.type #[v]).run P w = .ok v' w') (h:wpList P ops Q rest (a.put o.dst v') w'):wpList P ops Q (o::rest) a w :=
 wpList_plain hgd λK hK=>by
   unfold Oper.wp execOp
   simp only [ho,resolve,invoke,builtin,Sem.run_bind,Sem.run_pure,Result.andThen_ok,List.map_toArray,List.map_cons,List.map_nil,hs,hr]
   exact hK _ _ h
theorem zHR {ops : Array Oper} {o : Oper} {a : Act} {w : World} {K : Act → World → Prop} {Q : Exit → Act → World → Prop} {E : Prop}
   (hg:o.guard=none) (d x:Operand) (dT sT:TypeId) (hop:o.op=Op.call { callee:=Callee.builtin Builtin.append,args:=#[d,x],argTypes:=#[dT,sT] })
   (v u:Value) (hd:a.eval d=v) (hx:a.eval x=u) {v':Value} {w':World} (hr:(Builtin.append_ #[dT,sT] o.type #[v,u]).run P w = .ok v' w') (hK:K (a.put o.dst v') w') :
   if Region.wanted o (yielded ops a.tmps)=true then Oper.wp P o a w K Q else E:=by
 have hw:Region.wanted o (yielded ops a.tmps)=true:=by simp [Region.wanted,hg]
 rw [if_pos hw]
 unfold Oper.wp
 simp [execOp,hop,resolve,invoke,builtin,hd,hx,hr,Result.andThen]
 exact hK
theorem zGt {α:Type} (A B C:List α) (o:Nat) (cs:List α) (ho:A.length=o) (hc:B.length=cs.length):zNZ (A++(B++C)) o cs=A++(cs++C):=by
 subst ho
 unfold zNZ
 rw [List.take_left,← hc,← List.append_assoc A B C,← List.length_append,List.drop_left]
theorem zO3 (w:World):w.grownBy w.drew none:=⟨rfl,rfl,rfl,Nat.le_refl _,λ_ _ _=>rfl⟩
theorem _root_.Go.World.grownBy.drew' {w W:World} {r:Option Nat} (h:w.grownBy W r):w.grownBy W.drew r:=⟨h.os,h.tape,h.output,h.size,h.block⟩
theorem _root_.Go.World.grownBy.alloc' {w W:World} {r:Option Nat} (h:w.grownBy W r) (o:Obj):w.grownBy (W.alloc o) r :=
 ⟨h.os,h.tape,h.output,by have:=h.size;simp;omega,λk hk hr=>(heap_alloc_old W o (Nat.lt_of_lt_of_le hk h.size)).trans (h.block k hk hr)⟩
theorem _root_.Go.World.grownBy.setRow' {w W:World} {r:Option Nat} (h:w.grownBy W r) {g:Nat} (hg:w.heap.size≤g) (cs:Array Value):w.grownBy (W.setRow g cs) r :=
 ⟨h.os,h.tape,h.output,by have:=h.size;simpa [World.setRow] using this,λk hk hr=>(setRow_other W g k cs (by omega)).trans (h.block k hk hr)⟩
theorem zNQ {w:World} {v:Value} {e k n:Nat} {xs:List Value} (h:(row v e k n xs).p w) (hn:0<n):∃ g cap sp,v = .slice (some ⟨g,0,none⟩) n cap∧n≤cap∧cap≤maxLen∧(xs++sp).length=cap*k∧xs.length=n*k∧(blk g (xs++sp) e).p w:=by
 obtain ⟨hl,h⟩:=h
 rcases h with ⟨rfl,rfl⟩ | ⟨g,cap,cur,rfl,_,hg,hc,hm,hs,ht⟩
 ·omega
 ·have e1:xs++cur.toList.drop (n*k)=cur.toList:=by rw [← ht,List.take_append_drop]
  refine ⟨g,cap,cur.toList.drop (n*k),rfl,hc,hm,by rw [e1];simpa using hs,hl,?_⟩
  show w.heap[g]? = _
  rw [e1,Array.toArray_toList]
  exact hg
theorem zG2 {w:World} {g e k n cap:Nat} {xs sp:List Value} (h:(blk g (xs++sp) e).p w) (hx:xs.length=n*k) (hl:(xs++sp).length=cap*k) (hc:n≤cap) (hm:cap≤maxLen):(row (.slice (some ⟨g,0,none⟩) n cap) e k n xs).p w :=
 ⟨hx,.inr ⟨g,cap,(xs++sp).toArray,rfl,Nat.zero_le _,h,hc,hm,by simpa using hl,by simp [← hx]⟩⟩
section
variable {n : Nat} {F : List (Nat × Value)} {w0 : World} {S : List Nat} {M : List HA} {a : Act} {w : World}
theorem zXH {fn : Func} {post : Value → List HA → Prop} {t1 t t2 : Nat} {rt bt : TypeId} {g i sz : Nat} {cs vs : List Value} {v1 v2 : Value} {M' : List HA} (hs : St n F w0 S M a w) (hr : fn.results = #[.tmp t1, .cell t rt, .tmp t2]) (hv1 : lk F t1 = some v1) (hv : lk F t = some (.pointer (some ⟨g, i, none⟩))) (hv2 : lk F t2 = some v2) (hb : Del M (blk g cs bt) M') (hc : Cut cs i sz vs)
   (hag:∀ w,(isAgg rt).run P w = .ok true w) (hsz:∀ w,(sizeOf rt).run P w = .ok sz w) {X N:List HA} (hD:zC5 M X N) (hp:post (.tuple #[v1,.agg vs.toArray,v2]) N):bodyPost P fn (Ret w0 S post) .ret a w:=by
 have hg1:=hs.agr t1 _ hv1
 have hg:=hs.agr t _ hv
 have hg2:=hs.agr t2 _ hv2
 have he:=hc.eq
 have hcl:vs.length=sz:=by rw [he.1];simp;omega
 have hrun:=run_loadCells_list (P:=P) w ⟨g,i,none⟩ vs (λj u hj=>by
   rw [zHk,zBL (hs.mem.del hb)]
   rw [he.1,List.getElem?_take] at hj
   split at hj
   · simpa using hj
   · cases hj)
 rw [hcl] at hrun
 refine bodyPost_ret (v:=.tuple #[v1,.agg vs.toArray,v2]) ?_ hs.dfr ⟨_,N,rfl,hp,hs.mem.drop hD⟩
 simp [results,hr,Array.getD_eq_getD_getElem?,hg1,hg,hg2,asAddr,loadVar,hag,hsz,hrun]
theorem zSw {fn : Func} {post : Value → List HA → Prop} {t t2 : Nat} {rt bt rt2 bt2 : TypeId} {g i sz g2 i2 : Nat} {cs vs cs2 : List Value} {v2 : Value} {M' M2 : List HA} (hs : St n F w0 S M a w) (hr : fn.results = #[.cell t rt, .cell t2 rt2]) (hv : lk F t = some (.pointer (some ⟨g, i, none⟩))) (hv2 : lk F t2 = some (.pointer (some ⟨g2, i2, none⟩))) (hb : Del M (blk g cs bt) M') (hc : Cut cs i sz vs)
   (hag:∀ w,(isAgg rt).run P w = .ok true w) (hsz:∀ w,(sizeOf rt).run P w = .ok sz w) (hb2:Del M (blk g2 cs2 bt2) M2) (hc2:Nth cs2 i2 v2) (hag2:∀ w,(isAgg rt2).run P w = .ok false w) {X N:List HA} (hD:zC5 M X N) (hp:post (.tuple #[.agg vs.toArray,v2]) N):bodyPost P fn (Ret w0 S post) .ret a w:=by
 have hg:=hs.agr t _ hv
 have hg2:=hs.agr t2 _ hv2
 have he:=hc.eq
 have hcl:vs.length=sz:=by rw [he.1];simp;omega
 have hrun:=run_loadCells_list (P:=P) w ⟨g,i,none⟩ vs (λj u hj=>by
   rw [zHk,zBL (hs.mem.del hb)]
   rw [he.1,List.getElem?_take] at hj
   split at hj
   · simpa using hj
   · cases hj)
 have hc3:=(zBL (i:=i2) (hs.mem.del hb2)).trans hc2.get
 rw [hcl] at hrun
 refine bodyPost_ret (v:=.tuple #[.agg vs.toArray,v2]) ?_ hs.dfr ⟨_,N,rfl,hp,hs.mem.drop hD⟩
 simp [results,hr,Array.getD_eq_getD_getElem?,hg,hg2,asAddr,loadVar,hag,hag2,hsz,hrun,run_load,hc3]
end
instance : Inhabited zAD:=⟨⟨0,0,[]⟩⟩
structure RI where
 t:Int
 tm:Int
 l:List zS
 v:Value
instance : Inhabited RI:=⟨⟨0,0,[],.slice none 0 0⟩⟩
def RI.sn (x:RI):zAD:=⟨x.t,x.tm,x.l⟩
def sns (l:List RI):List zAD:=l.map RI.sn
def riV (x:RI):List Value:=[.int .i64 x.t,.int .i64 x.t,.int .i64 x.tm,x.v]
def snV (x:RI):List Value:=[.int .i64 x.t,.int .i64 x.tm,x.v]
theorem zB2 (x:RI):(riV x).length=4:=rfl
theorem zAm (x:RI):(snV x).length=3:=rfl
def zMb (x y:Int):Int:=if x<y then -1 else if y<x then 1 else 0
theorem zUK {x y:Int}:zMb x y<0↔x<y:=by unfold zMb;split<;>(try split)<;>omega
theorem zPu {x y:Int}:zMb x y=0↔x=y:=by unfold zMb;split<;>(try split)<;>omega
def zAz (l:List zAD) (k:Int):Nat:=l.countP λx=>decide (x.t<k)
def zDl (l:List zAD) (k:Int):Bool:=l.any λx=>x.t==k
def srt (l:List zAD):Prop:=l.Pairwise λx y=>x.t<y.t
theorem zAO (l:List RI):(sns l).length=l.length:=by simp [sns]
theorem zGm (l:List RI) {i:Nat} (h:i<l.length):(sns l).getD i default=(l.getD i default).sn:=by
 simp [sns,List.getD_eq_getElem?_getD,List.getElem?_map,List.getElem?_eq_getElem h]
theorem zEJ (l:List zAD) (k:Int):zAz l k≤l.length:=List.countP_le_length
theorem zW3 {l:List zAD} (h:srt l) {i j:Nat} (hij:i<j) (hj:j<l.length):(l.getD i default).t<(l.getD j default).t:=by
 have:=List.pairwise_iff_getElem.1 h i j (by omega) hj hij
 simpa [List.getD_eq_getElem?_getD,List.getElem?_eq_getElem hj,List.getElem?_eq_getElem (show i<l.length by omega)] using this
theorem zWJ {l:List zAD} (h:srt l) {i j:Nat} (hij:i≤j) (hj:j<l.length):(l.getD i default).t≤(l.getD j default).t:=by
 rcases Nat.eq_or_lt_of_le hij with rfl | h1
 · omega
 · have:=zW3 h h1 hj;omega
theorem zSS {k:Int}:∀ {l:List zAD} {i:Nat},(∀ t,t<i→(l.getD t default).t<k)→(∀ t,i≤t→t<l.length→k≤(l.getD t default).t)→i≤l.length→zAz l k=i
 | [],i,_,_,h=>by simp at h;simp [zAz,h]
 | a::r,0,_,h2,_=>by
  unfold zAz
  rw [List.countP_eq_zero]
  intro x hx
  obtain ⟨j,hj,rfl⟩:=List.getElem_of_mem hx
  have:=h2 j (Nat.zero_le _) hj
  rw [List.getD_eq_getElem?_getD,List.getElem?_eq_getElem hj] at this
  simpa using this
 | a::r,i+1,h1,h2,h3=>by
  have ha:a.t<k:=by simpa using h1 0 (by omega)
  have:=zSS (l:=r) (i:=i) (λt ht=>by simpa using h1 (t+1) (by omega)) (λt ht hl=>by simpa using h2 (t+1) (by omega) (by simp;omega)) (by simpa using h3)
  unfold zAz at *
  rw [List.countP_cons_of_pos (by simpa using ha),this]
theorem zMQ {l:List zAD} {k:Int} (h:srt l):∀ {t:Nat},t<zAz l k→(l.getD t default).t<k:=by
 induction l with
 | nil=>intro t ht;simp [zAz] at ht
 | cons a r ih =>
  intro t ht
  have hs:=List.pairwise_cons.1 h
  by_cases ha:a.t<k
  ·cases t with
   | zero=>simpa using ha
   | succ t =>
    have:t<zAz r k:=by unfold zAz at *;rw [List.countP_cons_of_pos (by simpa using ha)] at ht;omega
    simpa using ih hs.2 this
  ·exfalso
   have h0:zAz (a::r) k=0:=by
    unfold zAz
    rw [List.countP_eq_zero]
    intro x hx
    rcases List.mem_cons.1 hx with rfl | hx
    ·simpa using ha
    ·have:=hs.1 x hx
     simp;omega
   omega
theorem zMq {l:List zAD} {k:Int} (h:srt l):∀ {t:Nat},zAz l k≤t→t<l.length→k≤(l.getD t default).t:=by
 induction l with
 | nil=>intro t _ ht;simp at ht
 | cons a r ih =>
  intro t ht hl
  have hs:=List.pairwise_cons.1 h
  by_cases ha:a.t<k
  ·have e:zAz (a::r) k=zAz r k+1:=by unfold zAz;rw [List.countP_cons_of_pos (by simpa using ha)]
   cases t with
   | zero=>omega
   | succ t=>simpa using ih hs.2 (t:=t) (by omega) (by simpa using hl)
  ·cases t with
   | zero=>simpa using ha
   | succ t =>
    have hl2:t<r.length:=by simpa using hl
    have:=hs.1 _ (List.getElem_mem hl2)
    simp [List.getElem?_eq_getElem hl2]
    omega
theorem zEC {l:List zAD} {k:Int} (h:srt l):zDl l k=true↔zAz l k<l.length∧(l.getD (zAz l k) default).t=k:=by
 unfold zDl
 rw [List.any_eq_true]
 constructor
 ·rintro ⟨x,hx,hk⟩
  have hk:x.t=k:=by simpa using hk
  obtain ⟨j,hj,rfl⟩:=List.getElem_of_mem hx
  have e:(l.getD j default)=l[j]:=by simp [List.getD_eq_getElem?_getD,List.getElem?_eq_getElem hj]
  have hlt:¬ j<zAz l k:=λhc=>by have:=zMQ h hc;rw [e] at this;omega
  have hge:¬ zAz l k<j:=λhc=>by
   have h1:=zW3 h hc hj
   have h2:=zMq h (Nat.le_refl _) (by omega:zAz l k<l.length)
   rw [e] at h1;omega
  have:zAz l k=j:=by omega
  rw [this,e]
  exact ⟨hj,hk⟩
 ·rintro ⟨h1,h2⟩
  refine ⟨l.getD (zAz l k) default,?_,by simpa using h2⟩
  rw [List.getD_eq_getElem?_getD,List.getElem?_eq_getElem h1]
  exact List.getElem_mem h1
theorem zUE {l:List zAD} {k:Int} (h:srt l) (hl:¬ zAz l k<l.length):zDl l k=false:=by
 rw [Bool.eq_false_iff];intro hc;exact hl ((zEC h).1 hc).1
theorem zXb {l:List zAD} {k:Int} (h:srt l) (hl:zAz l k<l.length):zDl l k=(zMb (l.getD (zAz l k) default).t k==0):=by
 rw [Bool.eq_iff_iff,zEC h,beq_iff_eq,zPu]
 exact ⟨λh=>h.2,λh=>⟨hl,h⟩⟩
def zAF (l:List zAD) (k:Int):Nat:=zAz l k+(if zDl l k=true then 1 else 0)
theorem zSR {l:List zAD} {k:Int} (h:srt l):zAF l k≤l.length:=by
 unfold zAF
 split
 · next hc=>have:=((zEC h).1 hc).1;omega
 · have:=zEJ l k;omega
def zAd (l:List RI) (k:Int):RI:=if zDl (sns l) k=true then l.getD (zAz (sns l) k) default else default
def rat (l:List RI) (i:Int):RI:=if 0≤i∧i<l.length then l.getD i.toNat default else default
def zLN (l:List zAD) (i:Int):Nat:=if 0≤i∧i<l.length then 0 else 3
theorem zFB (l:List RI) (k:Int) (h:srt (sns l)):zAd l k∈l∨zAd l k=default:=by
 unfold zAd
 split
 ·next hc =>
  have:=((zEC h).1 hc).1
  rw [zAO] at this
  left
  rw [List.getD_eq_getElem?_getD,List.getElem?_eq_getElem this]
  exact List.getElem_mem this
 ·exact .inr rfl
theorem zKV (l:List RI) (i:Int):rat l i∈l∨rat l i=default:=by
 unfold rat
 split
 ·next hc =>
  have:i.toNat<l.length:=by omega
  left
  rw [List.getD_eq_getElem?_getD,List.getElem?_eq_getElem this]
  exact List.getElem_mem this
 ·exact .inr rfl
theorem zVW {lo hi:Nat} (h:lo+hi≤1000000000):((BitVec.ofInt 64 ((lo:Int)+(hi:Int)))>>>1).toInt=(((lo+hi)/2:Nat):Int):=by
 have e:(BitVec.ofInt 64 ((lo:Int)+(hi:Int))).toNat=lo+hi:=by
  rw [BitVec.toNat_ofInt]
  omega
 have e2:((BitVec.ofInt 64 ((lo:Int)+(hi:Int)))>>>1).toNat=(lo+hi)/2:=by
  rw [BitVec.toNat_ushiftRight,e,Nat.shiftRight_eq_div_pow]
 rw [BitVec.toInt_eq_toNat_cond,e2,if_pos (by omega)]
theorem zD1 {l:List RI} {i:Nat} (h:i<l.length):l.getD i default∈l:=by
 rw [List.getD_eq_getElem?_getD,List.getElem?_eq_getElem h]
 exact List.getElem_mem h
def zCN {α:Type} (l:List α) (i:Nat) (x:α):List α:=l.take i++x::l.drop i
theorem zHh {α:Type} (l:List α) {i:Nat} (x:α) (h:i≤l.length):(zCN l i x).length=l.length+1:=by simp [zCN];omega
theorem zHj {α:Type} {f:α→List Value} {k:Nat} (hf:∀ x,(f x).length=k):∀ (l:List α) (i:Nat),(l.flatMap f).take (i*k)=(l.take i).flatMap f∧(l.flatMap f).drop (i*k)=(l.drop i).flatMap f
 | [],i=>by simp
 | a::r,0=>by simp
 | a::r,i+1=>by
  have ih:=zHj hf r i
  have e:(i+1)*k=(f a).length+i*k:=by rw [hf a,Nat.succ_mul,Nat.add_comm]
  rw [List.flatMap_cons,e,List.take_length_add_append,List.drop_length_add_append,ih.1,ih.2]
  simp
theorem zTK {α:Type} {f:α→List Value} {k:Nat} (hf:∀ x,(f x).length=k) (l:List α) (i:Nat) (x:α):(l.flatMap f).take (i*k)++(f x++(l.flatMap f).drop (i*k))=(zCN l i x).flatMap f:=by
 rw [(zHj hf l i).1,(zHj hf l i).2]
 simp [zCN]
theorem zR6 {x:RI} {m:Nat} (h:zDj x.v m):∀ u∈riV x,u.oneCell'=true:=by
 intro u hu
 simp only [riV,List.mem_cons,List.not_mem_nil,or_false] at hu
 rcases hu with rfl | rfl | rfl | rfl
 · rfl
 · rfl
 · rfl
 · exact h.one
theorem zOi {l:List RI} (h:∀ x∈l,zDj x.v x.l.length):∀ u∈l.flatMap riV,u.oneCell'=true:=by
 intro u hu
 obtain ⟨x,hx,hu⟩:=List.mem_flatMap.1 hu
 exact zR6 (h x hx) u hu
theorem zNj {w w':World} {e:Ending} {S S':List Nat} {post:Value→List HA→Prop} (h:Ret w S post e w') (hs:∀ k∈S,k∈S'):Ret w S' post e w':=by
 obtain ⟨v,N,rfl,hp,hm⟩:=h
 exact ⟨v,N,rfl,hp,⟨⟨hm.chg.os,hm.chg.tape,hm.chg.output,hm.chg.size,λk hk hn=>hm.chg.block k hk (λhc=>hn (hs k hc))⟩,hm.all,hm.nd,λk hk=>(hm.ge k hk).imp (hs k) id⟩⟩
theorem zUb {l:List RI} (h:∀ x∈l,zDj x.v x.l.length) {x:RI} (hx:zDj x.v x.l.length) (i:Nat):∀ y∈zCN l i x,zDj y.v y.l.length:=by
 intro y hy
 simp only [zCN,List.mem_append,List.mem_cons] at hy
 rcases hy with hy | rfl | hy
 · exact h y (List.mem_of_mem_take hy)
 · exact hx
 · exact h y (List.mem_of_mem_drop hy)
def zGZ (l:List RI) (most:Nat) (x:RI):List RI:=if (zCN l (zAz (sns l) x.t) x).length≤most then zCN l (zAz (sns l) x.t) x else (zCN l (zAz (sns l) x.t) x).drop 1
def zIp (l:List RI) (most:Nat) (fl:Int) (x:RI):Int:=if (zCN l (zAz (sns l) x.t) x).length≤most then fl else ((zCN l (zAz (sns l) x.t) x).getD 0 default).t
def zIm (l:List RI) (most:Nat) (gone:Bool) (x:RI):Bool:=if (zCN l (zAz (sns l) x.t) x).length≤most then gone else true
def zHX (l:List RI) (most:Nat) (x:RI):Int:=if (zCN l (zAz (sns l) x.t) x).length≤most then 0 else ((zCN l (zAz (sns l) x.t) x).getD 0 default).t
def zHd (l:List RI) (most:Nat) (x:RI):Bool:=if (zCN l (zAz (sns l) x.t) x).length≤most then false else true
def rws (e:Nat) (l:List RI):HA:=zFy (l.map λx=>row x.v e 9 x.l.length (x.l.flatMap zBI))
theorem zC4 {e:Nat} {l:List RI} {w:World} (h:(rws e l).p w) {x:RI} (hx:x∈l∨x=default):Rd w [] x.v 9 x.l.length (x.l.flatMap zBI):=by
 rcases hx with hx | rfl
 · exact zK (h.1 _ (List.mem_map.2 ⟨x,hx,rfl⟩))
 · exact zQu _ [] 9
variable {bs : List zQ} {R : Rs}
theorem zVU (b:List zQ):(zCW b).2.2≤8:=by
 unfold zCW
 repeat' split
 all_goals simp
theorem zVA (b:List zQ) (X:BitVec 64):zIt b X≤8:=by
 have:=zVU b
 unfold zIt
 split<;>omega
theorem zEi (h:R.e≤15):(zH bs R).2.e≤15:=by
 unfold zH
 repeat' split
 all_goals simp<;>omega
theorem zCo (X:BitVec 64) (h:R.e≤15):(zP bs X R).2.e≤15:=by
 have:=zVA (bs.drop R.p) X
 unfold zP
 repeat' split
 all_goals simp<;>omega
theorem zGP (h:R.e≤15):(zAE bs R).2.e≤15:=zCo _ h
theorem zDS {c:Nat} (hc:c≤15) (h:R.e≤15):(zBo c R).e≤15:=by
 unfold zBo
 split
 · exact hc
 · exact h
theorem zRY (h:R.e≤15):zIz bs R≤15:=by
 unfold zIz
 split<;>omega
theorem zK0 (c:zQ) (h:R.e≤15):(zEk c bs R).e≤15:=by
 unfold zEk
 split
 · exact zEi h
 · exact zDS (by decide) (zEi h)
theorem zZl (h:R.e≤15):(gTm bs R).2.e≤15:=by
 unfold gTm
 dsimp only
 split
 · exact zGP h
 · exact zDS (by decide) (zGP h)
theorem zXa (m:BitVec 8) (i:Nat) (h:R.e≤15):(upI bs m i R).2.e≤15:=by
 unfold upI
 split
 ·dsimp only
  split
  ·exact zDS (by decide) (zGP h)
  ·exact zGP h
 ·exact h
theorem zQW (m:BitVec 8) (h:R.e≤15):∀ i,(upS bs m R i).e≤15
 | 0=>h
 | i+1=>zXa m i (zQW m h i)
theorem zZm (m:BitVec 8) (h:R.e≤15):(upA bs m R).2.e≤15:=by
 unfold upA
 split
 ·dsimp only
  split
  ·exact zDS (by decide) (zCo _ h)
  ·exact zCo _ h
 ·exact h
theorem zWK (h:R.e≤15):∀ i,(nS bs R i).e≤15
 | 0=>h
 | i+1=>zGP (zWK h i)
theorem zPN (k id:Int) (h:R.e≤15):(zBG bs k id R).2.e≤15:=by
 unfold zBG
 split
 ·exact zCo _ (zWK h 6)
 ·split
  ·unfold zBC
   dsimp only
   split
   ·exact zDS (by decide) (zEi h)
   ·exact zZm _ (zQW _ (zEi h) 6)
  ·split
   ·exact h
   ·exact zDS (by decide) h
theorem zK9 (last:Int) (h:R.e≤15):(zAM bs last R).2.2.e≤15:=by
 have h1:(zEf bs last R).2.e≤15:=by
  unfold zEf zQw
  exact zPN _ _ (zEi (zCo _ h))
 unfold zAM
 split
 ·exact h
 ·split
  ·exact zDS (by decide) h
  ·split
   ·exact h1
   ·exact h1
theorem zOF {s:List zY×Int×Rs} (h:s.2.2.e≤15):∀ i,(zKL bs s i).2.2.e≤15
 | 0=>h
 | i+1=>by
  have ih:=zOF h i
  unfold zKL
  split
  ·exact ih
  ·unfold zM5
   split
   ·exact zK9 _ ih
   ·exact zK9 _ ih
theorem zar (h:R.e≤15):(gT bs R).2.e≤15:=by
 unfold gT
 dsimp only
 exact zCo _ h
theorem zap (t:Int) (h:R.e≤15):(gB bs t R).2.e≤15:=by
 unfold gB
 dsimp only
 exact zCo _ h
theorem zQo (h:R.e≤15) (i:Nat):(zW bs R i).2.2.e≤15:=by
 unfold zW
 have h1:=zCo (bs:=bs) 128#64 h
 generalize (zP bs 128#64 R).2=R2 at *
 exact zOF (s:=([],-1,R2)) h1 i
theorem zF2 (t tm b:Int) (l:List zY) (e:Nat):(⟨t,tm,b,l,e⟩ : zDQ).e=e:=rfl
theorem zZW (x:List zQ):gEx x≤15:=by
 have a1:(gR1 x).e≤15:=by unfold gR1 zK7;exact zK0 _ (zK0 _ (Nat.zero_le _))
 have a2:(gTx x).2.e≤15:=by unfold gTx;exact zar a1
 have a3:(zHA x).2.e≤15:=by unfold zHA;exact zZl a2
 have a4:(gBx x).2.e≤15:=by unfold gBx;exact zap _ a3
 have a5:(gSx x).2.2.e≤15:=by
  unfold gSx
  exact zQo a4 _
 unfold gEx
 exact zRY a5
theorem zRk (bs:List zQ):(zA bs).e≤15:=by
 by_cases h:4096<bs.length
 ·rw [zJT h,zF2];decide
 ·cases ho:zCy bs with
  | none=>rw [zJa h ho,zF2];decide
  | some x =>
   by_cases he:gEx x=0
   ·rw [zKD h ho he,zF2];decide
   ·rw [zK6 h ho he,zF2];exact zZW x
theorem zPz (l:List zS) (j:Nat):zEm l j≤15:=by
 unfold zEm
 split
 · decide
 · split<;>decide
theorem zMz (l:List zS):zB3 l≤15:=by
 have h:∀ j,zET l j≤15:=by
  intro j
  induction j with
  | zero=>exact Nat.zero_le _
  | succ j ih =>
   unfold zET
   split
   ·exact ih
   ·exact zPz _ _
 exact h _
theorem zMa (t tm:Int) (l:List zS):zAB t tm l≤15:=by
 have:=zMz l
 unfold zAB
 split<;>(try split)<;>omega
theorem zRd (l:List zY) (j:Nat):zFV l j≤15:=by
 have h1:=zSf (l.getD j default)
 unfold zFV zA6
 repeat' split
 all_goals omega
theorem zMU (l:List zY):zCg l≤15:=by
 have h:∀ j,zCD l j≤15:=by
  intro j
  induction j with
  | zero=>exact Nat.zero_le _
  | succ j ih =>
   unfold zCD
   split
   ·exact ih
   ·exact zRd _ _
 exact h _
theorem zML (t tm b:Int) (l:List zY):zAc t tm b l≤15:=by
 have:=zMU l
 unfold zAc zFJ
 repeat' split
 all_goals omega
theorem zaD (at_ atm:Int) (a:List zS) (gt gtm gb:Int) (rl:List zY):aE at_ atm a gt gtm gb rl≤15:=by
 have h1:=zML gt gtm gb rl
 have h2:=zMa at_ atm a
 unfold aE
 split
 ·exact h1
 ·split
  ·exact h2
  ·split
   ·decide
   ·unfold aM
    split
    ·decide
    ·split<;>decide
structure Stt where
 l:List zAD
 floor:Int
 gone:Bool
 n:Nat→Nat
def zFZ (e:Nat) (b:Bool) (why:Nat):Nat:=if e=0∧b=true then why else e
theorem zS8 {e why:Nat} {b:Bool} (h:e=0) (hb:b=true):zFZ e b why=why:=if_pos ⟨h,hb⟩
theorem zRU {e why:Nat} {b:Bool} (hb:b=false):zFZ e b why=e:=if_neg (by rw [hb];simp)
theorem zLg {e why:Nat} {b:Bool} (h:e≠0):zFZ e b why=e:=if_neg (λhc=>h hc.1)
theorem zNf {e why:Nat} {b:Bool} (hw:why≠0):zFZ e b why=0↔e=0∧b=false:=by
 unfold zFZ
 split
 · next h=>simp [h.2,hw]
 · next h => constructor
             · intro he;exact ⟨he,by cases b<;>simp_all⟩
             · intro he;exact he.1
theorem zJs {e why k:Nat} {b:Bool} (h:e≤k) (hw:why≤k):zFZ e b why≤k:=by unfold zFZ;split<;>omega
def zCM (l:List zAD) (k:Int):zAD:=if zDl l k=true then l.getD (zAz l k) default else default
def sat (l:List zAD) (i:Int):zAD:=if 0≤i∧i<l.length then l.getD i.toNat default else default
theorem zKG (l:List RI) (k:Int) (h:srt (sns l)):(zAd l k).sn=zCM (sns l) k:=by
 unfold zAd zCM
 split
 ·next hc =>
  have:=((zEC h).1 hc).1
  rw [zGm l (by rwa [zAO] at this)]
 ·rfl
theorem zEY (l:List RI) (i:Int):(rat l i).sn=sat (sns l) i:=by
 unfold rat sat
 rw [zAO]
 split
 · rw [zGm l (by omega)]
 · rfl
def stl (l:List zAD) (most:Nat) (fl:Int) (gone:Bool) (k:Int):Bool:=(gone && decide (k≤fl)) || (decide (l.length=most) && decide (zAF l k=0))
def tml (l:List zAD) (t tm:Int):Bool :=
 (!(decide (zLN l ((zAF l t:Nat)-1:Int)=0)) || decide ((sat l ((zAF l t:Nat)-1:Int)).tm<tm)) && (!(decide (zLN l ((zAF l t:Nat):Int)=0)) || decide (tm<(sat l ((zAF l t:Nat):Int)).tm))
def zIs (l:List zAD) (b:Int):Bool:=!(zDl l b) && decide (0≤b)
def zLx (l:List zAD) (most:Nat) (fl:Int) (gone:Bool) (G:zDQ):Nat:=zFZ (zFZ (zFZ G.e (zDl l G.t) 12) (stl l most fl gone G.t) 13) (zIs l G.b) 14
def zAi (l:List zAD) (G:zDQ):zAD:=aS (zCM l G.b).t (zCM l G.b).tm (zCM l G.b).l G.t G.tm G.b G.l
def zKi (l:List zAD) (G:zDQ):Nat:=aE (zCM l G.b).t (zCM l G.b).tm (zCM l G.b).l G.t G.tm G.b G.l
def zBq (l:List zAD) (most:Nat) (fl:Int) (gone:Bool) (G:zDQ):Nat :=
 if G.e≠0 then G.e else if zLx l most fl gone G≠0 then zLx l most fl gone G else zFZ (zKi l G) (!(tml l (zAi l G).t (zAi l G).tm)) 16
theorem zR3 {l : List zAD} {most : Nat} {fl : Int} {gone : Bool} {G : zDQ} (h : zBq l most fl gone G = 0) :
   G.e=0∧zDl l G.t=false∧stl l most fl gone G.t=false∧zIs l G.b=false∧zKi l G=0∧tml l (zAi l G).t (zAi l G).tm=true:=by
 unfold zBq at h
 split at h
 · omega
 · split at h
   · omega
   · next h1 h2 =>
     have h3:=(zNf (by decide)).1 h
     have h4:zLx l most fl gone G=0:=by omega
     unfold zLx at h4
     have h5:=(zNf (by decide)).1 h4
     have h6:=(zNf (by decide)).1 h5.1
     have h7:=(zNf (by decide)).1 h6.1
     exact ⟨h7.1,h7.2,h6.2,h5.2,h3.1,by simpa using h3.2⟩
theorem zWv {l:List zAD} {most:Nat} {fl:Int} {gone:Bool} {G:zDQ} (h:G.e≠0):zBq l most fl gone G=G.e:=by unfold zBq;rw [if_pos h]
theorem zNp {l:List zAD} {most:Nat} {fl:Int} {gone:Bool} {G:zDQ} (h:G.e=0) (h1:zLx l most fl gone G≠0):zBq l most fl gone G=zLx l most fl gone G:=by unfold zBq;rw [if_neg (by omega),if_pos h1]
theorem zWV {l:List zAD} {most:Nat} {fl:Int} {gone:Bool} {G:zDQ} (h:G.e=0) (h1:zLx l most fl gone G=0):zBq l most fl gone G=zFZ (zKi l G) (!(tml l (zAi l G).t (zAi l G).tm)) 16:=by unfold zBq;rw [if_neg (by omega),if_neg (by omega)]
def zMO (l:List zAD) (most:Nat) (x:zAD):List zAD:=if (zCN l (zAz l x.t) x).length≤most then zCN l (zAz l x.t) x else (zCN l (zAz l x.t) x).drop 1
def zZU (l:List zAD) (most:Nat) (fl:Int) (x:zAD):Int:=if (zCN l (zAz l x.t) x).length≤most then fl else ((zCN l (zAz l x.t) x).getD 0 default).t
def zXj (l:List zAD) (most:Nat) (gone:Bool) (x:zAD):Bool:=if (zCN l (zAz l x.t) x).length≤most then gone else true
theorem zKk (l:List RI) (i:Nat) (x:RI):sns (zCN l i x)=zCN (sns l) i x.sn:=by simp [sns,zCN,List.map_take,List.map_drop]
theorem zWF (l:List RI) (most:Nat) (x:RI):sns (zGZ l most x)=zMO (sns l) most x.sn:=by
 unfold zGZ zMO
 rw [← zKk,zAO]
 show sns (if _ then _ else _)=if (zCN l (zAz (sns l) x.t) x).length≤most then sns (zCN l (zAz (sns l) x.t) x) else _
 split
 · rfl
 · simp [sns];rfl
theorem zVN (l:List RI) (most:Nat) (fl:Int) (x:RI) (h:zAz (sns l) x.t≤l.length):zIp l most fl x=zZU (sns l) most fl x.sn:=by
 unfold zIp zZU
 rw [← zKk,zAO]
 show (if (zCN l (zAz (sns l) x.t) x).length≤most then fl else _)=if (zCN l (zAz (sns l) x.t) x).length≤most then fl else _
 split
 · rfl
 · rw [show zAz (sns l) x.sn.t=zAz (sns l) x.t from rfl,zGm _ (by rw [zHh l x h];omega)];rfl
theorem zVw (l:List RI) (most:Nat) (gone:Bool) (x:RI):zIm l most gone x=zXj (sns l) most gone x.sn:=by
 unfold zIm zXj
 rw [← zKk,zAO];rfl
def zBc (n:Nat→Nat) (e:Nat):Nat→Nat:=λi=>if i=e then n i+1 else n i
def zDA (most:Nat) (σ:Stt) (G:zDQ):Stt :=
 if zBq σ.l most σ.floor σ.gone G=0 then ⟨zMO σ.l most (zAi σ.l G),zZU σ.l most σ.floor (zAi σ.l G),zXj σ.l most σ.gone (zAi σ.l G),zBc σ.n 0⟩ else ⟨σ.l,σ.floor,σ.gone,zBc σ.n (zBq σ.l most σ.floor σ.gone G)⟩
def zJb (l:List zAD) (most:Nat) (fl:Int) (gone:Bool) (G:zDQ):Int:=if zBq l most fl gone G=0 then (zAi l G).t else 0
structure Oks (l:List zAD) (most:Nat):Prop where
 srt:srt l
 le:l.length≤most
 m1:1≤most
 m64:most≤64
 rng:∀ x∈l,0≤x.t∧x.t≤4294967295 ∧ -9223372036854775808≤x.tm∧x.tm≤9223372036854775807∧x.l.length≤64
theorem zUH {l:List zAD} {x:zAD} (h:srt l) (hk:zDl l x.t=false):srt (zCN l (zAz l x.t) x):=by
 have hne:∀ y∈l,y.t≠x.t:=λy hy e=>by
  have:zDl l x.t=true:=List.any_eq_true.2 ⟨y,hy,by simpa using e⟩
  rw [hk] at this;cases this
 have h1:∀ y∈l.take (zAz l x.t),y.t<x.t:=λy hy=>by
  obtain ⟨j,hj,rfl⟩:=List.getElem_of_mem hy
  rw [List.length_take] at hj
  have:=zMQ h (t:=j) (k:=x.t) (by omega)
  rw [List.getElem_take]
  simpa [List.getD_eq_getElem?_getD,List.getElem?_eq_getElem (show j<l.length by omega)] using this
 have h2:∀ y∈l.drop (zAz l x.t),x.t<y.t:=λy hy=>by
  obtain ⟨j,hj,rfl⟩:=List.getElem_of_mem hy
  rw [List.length_drop] at hj
  have h3:=zMq h (t:=zAz l x.t+j) (k:=x.t) (by omega) (by omega)
  have h4:=hne _ (List.mem_of_mem_drop hy)
  rw [List.getElem_drop] at h4 ⊢
  have h5:x.t≤l[zAz l x.t+j].t:=by simpa [List.getD_eq_getElem?_getD,List.getElem?_eq_getElem (show zAz l x.t+j<l.length by omega)] using h3
  omega
 unfold zCN srt
 refine List.pairwise_append.2 ⟨h.take,List.pairwise_cons.2 ⟨h2,h.drop⟩,λa ha b hb=>?_⟩
 rcases List.mem_cons.1 hb with rfl | hb
 ·exact h1 a ha
 ·have:=h1 a ha;have:=h2 b hb;omega
theorem zTx {α:Type} {l:List α} {i:Nat} {x y:α} (h:y∈zCN l i x):y=x∨y∈l:=by
 simp only [zCN,List.mem_append,List.mem_cons] at h
 rcases h with h | h | h
 · exact .inr (List.mem_of_mem_take h)
 · exact .inl h
 · exact .inr (List.mem_of_mem_drop h)
theorem zZI {l:List zAD} {most:Nat} {x:zAD} (h:Oks l most) (hk:zDl l x.t=false) (hx:0≤x.t∧x.t≤4294967295 ∧ -9223372036854775808≤x.tm∧x.tm≤9223372036854775807∧x.l.length≤64):Oks (zMO l most x) most:=by
 have hl:=zHh l x (zEJ l x.t)
 have hs:=zUH h.srt hk
 have hr:∀ y∈zCN l (zAz l x.t) x,0≤y.t∧y.t≤4294967295 ∧ -9223372036854775808≤y.tm∧y.tm≤9223372036854775807∧y.l.length≤64:=λy hy=>by
  rcases zTx hy with rfl | hy
  ·exact hx
  ·exact h.rng y hy
 have:=h.le
 unfold zMO
 split
 ·exact ⟨hs,by omega,h.m1,h.m64,hr⟩
 ·refine ⟨hs.drop,?_,h.m1,h.m64,λy hy=>hr y (List.mem_of_mem_drop hy)⟩
  rw [List.length_drop];omega
theorem zQZ {l:List zAD} {G:zDQ} (h:zKi l G=0):(zAi l G).t=G.t∧(zAi l G).tm=G.tm:=by
 unfold zAi zKi at *
 rw [zcB h]
 exact ⟨rfl,rfl⟩
theorem zY0 {most:Nat} {σ:Stt} {bs:List zQ} (h:Oks σ.l most):Oks (zDA most σ (zA bs)).l most:=by
 unfold zDA
 split
 ·next h0 =>
  obtain ⟨_,h2,_,_,h5,_⟩:=zR3 h0
  have h6:=zHe bs
  have h7:=zQZ h5
  refine zZI h (by rw [h7.1];exact h2) ⟨by omega,by omega,by omega,by omega,?_⟩
  unfold zAi
  exact zN7.2.2
 ·exact h
def zaF : Stt:=⟨[],0,false,λ_=>0⟩
theorem zcb {k:Nat} (h:1≤k∧k≤64):Oks zaF.l k:=⟨List.Pairwise.nil,Nat.zero_le _,h.1,h.2,by simp [zaF]⟩
theorem zOk {l:List zAD} {most:Nat} (h:Oks l most) (k:Int):0≤(zCM l k).t∧(zCM l k).t≤4294967295 ∧ -9223372036854775808≤(zCM l k).tm∧(zCM l k).tm≤9223372036854775807∧(zCM l k).l.length≤64:=by
 unfold zCM
 split
 ·next hc =>
  have:=((zEC h.srt).1 hc).1
  refine h.rng _ ?_
  rw [List.getD_eq_getElem?_getD,List.getElem?_eq_getElem this]
  exact List.getElem_mem this
 ·exact ⟨by decide,by decide,by decide,by decide,by decide⟩
theorem zNb {l:List RI} {most:Nat} (h:Oks (sns l) most) (k:Int):0≤(zAd l k).t∧(zAd l k).t≤4294967295 ∧ -9223372036854775808≤(zAd l k).tm∧(zAd l k).tm≤9223372036854775807∧(zAd l k).l.length≤64:=by
 have:=zOk h k
 rw [← zKG l k h.srt] at this
 exact this
theorem zYW {l:List RI} {most:Nat} (h:Oks (sns l) most) (i:Int):0≤(rat l i).t∧(rat l i).t≤4294967295 ∧ -9223372036854775808≤(rat l i).tm∧(rat l i).tm≤9223372036854775807∧(rat l i).l.length≤64:=by
 have h0:(rat l i).sn=sat (sns l) i:=zEY l i
 have:0≤(sat (sns l) i).t∧(sat (sns l) i).t≤4294967295 ∧ -9223372036854775808≤(sat (sns l) i).tm∧(sat (sns l) i).tm≤9223372036854775807∧(sat (sns l) i).l.length≤64:=by
  unfold sat
  split
  ·next hc =>
   have:i.toNat<(sns l).length:=by omega
   refine h.rng _ ?_
   rw [List.getD_eq_getElem?_getD,List.getElem?_eq_getElem this]
   exact List.getElem_mem this
  ·exact ⟨by decide,by decide,by decide,by decide,by decide⟩
 rw [← h0] at this
 exact this
theorem zGE {l:List RI} {G:zDQ} (h:srt (sns l)):zAi (sns l) G=aS (zAd l G.b).t (zAd l G.b).tm (zAd l G.b).l G.t G.tm G.b G.l:=by
 unfold zAi
 rw [← zKG l _ h];rfl
theorem zJL {l:List RI} {G:zDQ} (h:srt (sns l)):zKi (sns l) G=aE (zAd l G.b).t (zAd l G.b).tm (zAd l G.b).l G.t G.tm G.b G.l:=by
 unfold zKi
 rw [← zKG l _ h];rfl
theorem zYK {l:List RI} {most:Nat} {fl:Int} {gone:Bool} {G:zDQ} (h:zBq (sns l) most fl gone G=0):zDl (sns l) (zAi (sns l) G).t=false∧¬ (gone=true∧(zAi (sns l) G).t≤fl)∧¬ (zAz (sns l) (zAi (sns l) G).t=0∧l.length=most):=by
 obtain ⟨_,h2,h3,_,h5,_⟩:=zR3 h
 rw [(zQZ h5).1]
 unfold stl zAF at h3
 rw [h2,zAO] at h3
 refine ⟨h2,λhc=>?_,λhc=>?_⟩
 · simp [hc.1,hc.2] at h3
 · simp [hc.1,hc.2] at h3
theorem zU8 {l:List zAD} {bs:List zQ} (h:zKi l (zA bs)=0):0≤(zAi l (zA bs)).t∧(zAi l (zA bs)).t≤4294967295 ∧ -9223372036854775808≤(zAi l (zA bs)).tm∧(zAi l (zA bs)).tm≤9223372036854775807∧(zAi l (zA bs)).l.length≤64:=by
 have h1:=zHe bs
 obtain ⟨h2,h3⟩:=zQZ h
 refine ⟨by omega,by omega,by omega,by omega,?_⟩
 unfold zAi
 exact zN7.2.2
theorem zbh (A:zAD) (v:Value):RI.sn ⟨A.t,A.tm,A.l,v⟩=A:=rfl
theorem zTk {l : List RI} {most : Nat} {fl : Int} {gone : Bool} {N : Nat → Nat} {G : zDQ} (v : Value) (h0 : zBq (sns l) most fl gone G = 0) : zJb (sns l) most fl gone G = (zAi (sns l) G).t ∧
   zDA most ⟨sns l,fl,gone,N⟩ G=⟨sns (zGZ l most ⟨(zAi (sns l) G).t,(zAi (sns l) G).tm,(zAi (sns l) G).l,v⟩),zIp l most fl ⟨(zAi (sns l) G).t,(zAi (sns l) G).tm,(zAi (sns l) G).l,v⟩,zIm l most gone ⟨(zAi (sns l) G).t,(zAi (sns l) G).tm,(zAi (sns l) G).l,v⟩,zBc N 0⟩:=by
 refine ⟨if_pos h0,?_⟩
 unfold zDA
 rw [if_pos h0]
 generalize zAi (sns l) G=A
 rw [zWF,zVw,zVN,zbh]
 have:=zEJ (sns l) A.t
 rw [zAO] at this
 exact this
theorem zY8 {l:List zAD} {most:Nat} {fl:Int} {gone:Bool} {N:Nat→Nat} {G:zDQ} {k:Nat} (hk:zBq l most fl gone G=k) (h0:k≠0):zJb l most fl gone G=0∧zDA most ⟨l,fl,gone,N⟩ G=⟨l,fl,gone,zBc N k⟩:=by
 refine ⟨if_neg (by omega),?_⟩
 unfold zDA
 rw [if_neg (by rw [hk];exact h0)]
 rw [hk]
theorem zYf {l:List zAD} {most:Nat} {fl:Int} {gone:Bool} {bs:List zQ}:zBq l most fl gone (zA bs)≤17:=by
 have h1:=zRk bs
 have h2:zKi l (zA bs)≤15:=zaD _ _ _ _ _ _ _
 have h3:zLx l most fl gone (zA bs)≤17:=zJs (zJs (zJs (by omega) (by omega)) (by omega)) (by omega)
 unfold zBq
 split
 ·omega
 ·split
  ·exact h3
  ·exact zJs (by omega) (by omega)
section
variable {n : Nat} {F : List (Nat × Value)} {w0 w : World} {S : List Nat} {M : List HA} {a : Act} {P : Program}
theorem Mem.keepH {h:HA} (hm:Mem w0 S M w) (hp:h.p w0) (hn:∀ k∈h.foot,k ∉ S):h.p w:=h.loc w0 w (λk hk=>hm.chg.block k (h.lt w0 hp k hk) (hn k hk)) hp
theorem zSz (l:List zS):∀ z∈l.flatMap zBI,z.oneCell'=true:=by
 intro z hz
 obtain ⟨e,_,he⟩:=List.mem_flatMap.1 hz
 simp only [zBI,List.mem_cons,List.not_mem_nil,or_false] at he
 rcases he with rfl | rfl | rfl | rfl | rfl | rfl | rfl | rfl | rfl<;>rfl
theorem zEH {e:Nat} {l:List RI} {w:World} (h:(rws e l).p w):∀ x∈l,zDj x.v x.l.length:=λx hx=>(zC4 h (.inl hx)).isSl
theorem zSB {M M':List HA} (h:M.Perm M'):(zN M).Perm (zN M'):=h.flatMap_right HA.foot
theorem zKT {e : Nat} {l l' : List RI} {x : RI} {w : World} (hp : (rws e l).p w) (hx : (row x.v e 9 x.l.length (x.l.flatMap zBI)).p w) (hnd : (zN [rws e l, row x.v e 9 x.l.length (x.l.flatMap zBI)]).Nodup) (hl : l'.Perm (x :: l)) (k : Nat) :
   Mem w (zN [rws e l,row x.v e 9 x.l.length (x.l.flatMap zBI)]) [rws e (l'.drop k)] w:=by
 have h0:(zN (l'.map λx=>row x.v e 9 x.l.length (x.l.flatMap zBI))).Perm (zN [rws e l,row x.v e 9 x.l.length (x.l.flatMap zBI)]):=by
   refine (zSB (hl.map _)).trans ?_
   rw [List.map_cons,zEz]
   show (_++zN (l.map λx=>row x.v e 9 x.l.length (x.l.flatMap zBI))).Perm _
   have:zN [rws e l,row x.v e 9 x.l.length (x.l.flatMap zBI)]=zN (l.map λx=>row x.v e 9 x.l.length (x.l.flatMap zBI))++(row x.v e 9 x.l.length (x.l.flatMap zBI)).foot:=by
     simp [zN,rws,zFy]
   rw [this]
   exact List.perm_append_comm
 have hsub:List.Sublist (zN ((l'.drop k).map λx=>row x.v e 9 x.l.length (x.l.flatMap zBI))) (zN (l'.map λx=>row x.v e 9 x.l.length (x.l.flatMap zBI))):=by
   rw [List.map_drop]
   generalize (l'.map λx=>row x.v e 9 x.l.length (x.l.flatMap zBI))=L
   conv=>rhs;rw [← List.take_append_drop k L,zAs]
   exact List.sublist_append_right _ _
 have hnd2:=hsub.nodup (h0.nodup_iff.2 hnd)
 have hf:zN [rws e (l'.drop k)]=zN ((l'.drop k).map λx=>row x.v e 9 x.l.length (x.l.flatMap zBI)):=by rw [rws,zBw]
 refine ⟨Chg.refl _ _,?_,by rw [hf];exact hnd2,λk hk=>.inl ?_⟩
 · intro h hh
   simp only [List.mem_singleton] at hh
   subst hh
   refine ⟨?_,hnd2⟩
   intro y hy
   obtain ⟨z,hz,rfl⟩:=List.mem_map.1 hy
   rcases List.mem_cons.1 (hl.mem_iff.1 (List.mem_of_mem_drop hz)) with rfl | hz
   · exact hx
   · exact hp.1 _ (List.mem_map.2 ⟨z,hz,rfl⟩)
 · rw [hf] at hk
   exact h0.mem_iff.1 (hsub.subset hk)
theorem zKo {α:Type} (l:List α) (i:Nat) (x:α):(zCN l i x).Perm (x::l):=by
 unfold zCN
 refine List.perm_middle.trans ?_
 rw [List.take_append_drop]
theorem zWA (w:World) (e:Nat):Mem w (zN []) [rws e []] w:=by
 refine ⟨Chg.refl _ _,?_,by simp [zN,rws,zFy],λk hk=>by simp [zN,rws,zFy] at hk⟩
 intro h hh
 simp only [List.mem_singleton] at hh
 subst hh
 exact ⟨by simp,by simp [zN]⟩
theorem St.addRws (hs:St n F w0 S M a w) (e:Nat):St n F w0 S (rws e []::M) a w:=hs.frame (zC5.n (M:=M)) (zWA w e)
theorem St.rwsLay {e most:Nat} {l:List RI} {x:RI} {M':List HA} (hs:St n F w0 S M a w) (d:zC5 M [rws e l,row x.v e 9 x.l.length (x.l.flatMap zBI)] M'):St n F w0 S (rws e (zGZ l most x)::M') a w:=by
 have hall:∀ h∈[rws e l,row x.v e 9 x.l.length (x.l.flatMap zBI)],h.p w:=λh hh=>hs.mem.all h ((d.mem h).2 (.inl hh))
 have hnd:=hs.mem.ndX d
 unfold zGZ
 split
 · exact hs.frame d (zKT (hall _ (by simp)) (hall _ (by simp)) hnd (zKo l _ x) 0)
 · exact hs.frame d (zKT (hall _ (by simp)) (hall _ (by simp)) hnd (zKo l _ x) 1)
theorem St.rwsSnoc {e:Nat} {l:List RI} {x:RI} {M':List HA} (hs:St n F w0 S M a w) (d:zC5 M [rws e l,row x.v e 9 x.l.length (x.l.flatMap zBI)] M'):St n F w0 S (rws e (l++[x])::M') a w:=by
 have hall:∀ h∈[rws e l,row x.v e 9 x.l.length (x.l.flatMap zBI)],h.p w:=λh hh=>hs.mem.all h ((d.mem h).2 (.inl hh))
 exact hs.frame d (zKT (hall _ (by simp)) (hall _ (by simp)) (hs.mem.ndX d) (List.perm_append_comm (l₁:=l) (l₂:=[x])) 0)
end
theorem zcq {e:Nat} (h:e<18):e=0∨e=1∨e=2∨e=3∨e=4∨e=5∨e=6∨e=7∨e=8∨e=9∨e=10∨e=11∨e=12∨e=13∨e=14∨e=15∨e=16∨e=17:=by omega
theorem zXY {a b:Value} {N:Nat→Nat} {e:Nat} (h:e<18):([a,b,.int .i64 ((N 0:Nat):Int),.int .i64 ((N 1:Nat):Int),.int .i64 ((N 2:Nat):Int),.int .i64 ((N 3:Nat):Int),.int .i64 ((N 4:Nat):Int),.int .i64 ((N 5:Nat):Int),.int .i64 ((N 6:Nat):Int),.int .i64 ((N 7:Nat):Int),.int .i64 ((N 8:Nat):Int),.int .i64 ((N 9:Nat):Int),.int .i64 ((N 10:Nat):Int),.int .i64 ((N 11:Nat):Int),.int .i64 ((N 12:Nat):Int),.int .i64 ((N 13:Nat):Int),.int .i64 ((N 14:Nat):Int),.int .i64 ((N 15:Nat):Int),.int .i64 ((N 16:Nat):Int),.int .i64 ((N 17:Nat):Int)]:List Value)[2+e]? = some (.int .i64 ((N e:Nat):Int)):=by
 rcases zcq h with rfl | rfl | rfl | rfl | rfl | rfl | rfl | rfl | rfl | rfl | rfl | rfl | rfl | rfl | rfl | rfl | rfl | rfl<;>rfl
theorem zYk {a b:Value} {N:Nat→Nat} {e:Nat} (h:e<18):([a,b,.int .i64 ((N 0:Nat):Int),.int .i64 ((N 1:Nat):Int),.int .i64 ((N 2:Nat):Int),.int .i64 ((N 3:Nat):Int),.int .i64 ((N 4:Nat):Int),.int .i64 ((N 5:Nat):Int),.int .i64 ((N 6:Nat):Int),.int .i64 ((N 7:Nat):Int),.int .i64 ((N 8:Nat):Int),.int .i64 ((N 9:Nat):Int),.int .i64 ((N 10:Nat):Int),.int .i64 ((N 11:Nat):Int),.int .i64 ((N 12:Nat):Int),.int .i64 ((N 13:Nat):Int),.int .i64 ((N 14:Nat):Int),.int .i64 ((N 15:Nat):Int),.int .i64 ((N 16:Nat):Int),.int .i64 ((N 17:Nat):Int)]:List Value).set (2+e) (.int .i64 ((((N e:Nat):Int))+1))=[a,b,.int .i64 ((zBc N e 0:Nat):Int),.int .i64 ((zBc N e 1:Nat):Int),.int .i64 ((zBc N e 2:Nat):Int),.int .i64 ((zBc N e 3:Nat):Int),.int .i64 ((zBc N e 4:Nat):Int),.int .i64 ((zBc N e 5:Nat):Int),.int .i64 ((zBc N e 6:Nat):Int),.int .i64 ((zBc N e 7:Nat):Int),.int .i64 ((zBc N e 8:Nat):Int),.int .i64 ((zBc N e 9:Nat):Int),.int .i64 ((zBc N e 10:Nat):Int),.int .i64 ((zBc N e 11:Nat):Int),.int .i64 ((zBc N e 12:Nat):Int),.int .i64 ((zBc N e 13:Nat):Int),.int .i64 ((zBc N e 14:Nat):Int),.int .i64 ((zBc N e 15:Nat):Int),.int .i64 ((zBc N e 16:Nat):Int),.int .i64 ((zBc N e 17:Nat):Int)]:=by
 rcases zcq h with rfl | rfl | rfl | rfl | rfl | rfl | rfl | rfl | rfl | rfl | rfl | rfl | rfl | rfl | rfl | rfl | rfl | rfl<;>rfl
end Go.Sx
