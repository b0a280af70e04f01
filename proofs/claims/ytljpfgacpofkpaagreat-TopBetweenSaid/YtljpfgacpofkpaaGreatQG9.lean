import Derived.Test.YtljpfgacpofkpaaGreatQSxStos
import Derived.Test.YtljpfgacpofkpaaGreatQSxBasB
import Derived.Defers
import Derived.OrdersIn
import Derived.Test.YtljpfgacpofkpaaGreatQSxDel
import Derived.Test.YtljpfgacpofkpaaGreatQSxRecs
import Derived.KernelRfl
import Derived.Test.YtljpfgacpofkpaaGreatProg
set_option linter.unusedVariables false
set_option linter.unusedSimpArgs false
namespace Go.Sx
open Go.RowKit
variable {P : Program} {ops : Array Oper} {Q : Exit → Act → World → Prop} {rest : List Oper} {n : Nat} {F : List (Nat × Value)} {w0 : World} {S : List Nat} {M : List HA} {a : Act} {w : World}
variable {d : Nat} {ty : TypeId} {pos : String} {af : Array Edge}
theorem zQd {m L : Nat} {x : Operand} {xs : List Operand} {ats : Array TypeId} {vs : List Value} {X M' : List HA} {post : Bool → List HA → Prop} (hs : St n F w0 S M a w) (hx : evo F x = some (.func (.yield L) #[] #[])) (hv : Evs F xs vs) (hX : zC5 M X M')
   (hy:∀ W:World,(∀ h∈X,h.p W)→(zN X).Nodup→YieldAt Fence.wide (m-1) P L vs.toArray W λe W'=>∃ b,e = .returned (.bool b)∧∃ N,post b N∧Mem W (zN X) N W') (hd:Nat.blt d n=true)
   (k:∀ b N a w,post b N→St n ((d,.bool b)::F) w0 S (N++M') a w→wpListIn (Fw none) m P ops Q rest a w):wpListIn (Fw none) m P ops Q (⟨some d,.call { callee:=.value x,args:=xs.toArray,argTypes:=ats },ty,pos,af,none⟩::rest) a w:=by
 have hall:∀ h∈X,h.p w:=λh hh=>hs.mem.all h ((hX.mem h).2 (.inl hh))
 have hnd:(zN X).Nodup:=(List.nodup_append.1 (hX.perm.nodup_iff.1 hs.mem.nd)).1
 obtain ⟨fn,tmps,assign,body,hy1,hy2⟩:=hy w hall hnd
 have hr:(execOp a.eval ⟨some d,.call { callee:=.value x,args:=xs.toArray,argTypes:=ats },ty,pos,af,none⟩).run P w = .ok (.round L fn tmps assign body) w:=by
   simp [execOp,resolve,invoke,Deferred.ofValue,hs.ev hx,hs.evs hv,hy1]
 simp only [wpListIn]
 rw [if_pos (by simp [Region.wanted])]
 refine ⟨λ_ _=>trivial,?_⟩
 have hr':(Oper.semAt (Fw none).round a.eval ⟨some d,.call { callee:=.value x,args:=xs.toArray,argTypes:=ats },ty,pos,af,none⟩).run P w = .ok (.round L fn tmps assign body) w:=hr
 rw [hr',Oper.uponIn_round]
 refine ⟨λhx=>(by cases hx),RoundIn.mono hy2 ?_⟩
 rintro e W' ⟨b,rfl,N,hp,hm⟩
 exact k b N _ _ hp ((hs.frame hX hm).put hd _)
def zTT (rec:LoopState→Loop):Loop:={ rec .done with pending:=some .ret }
def zch (rec:LoopState→Loop):Loop:={ rec .exhausted with pending:=some .ret }
theorem St.round2 {p p2:Nat} (hs:St n F w0 S M a w) (hd:Nat.blt p n=true) (hd2:Nat.blt p2 n=true) (v v2:Value) {W:World} {S':List Nat} {M':List HA} (hm:Mem W S' M' W):St n ((p2,v2)::(p,v)::F) W S' M' { tmps:=(a.tmps.setIfInBounds p v).setIfInBounds p2 v2,defers:=[] } W :=
 ⟨((hs.put hd v).put hd2 v2).size,rfl,((hs.put hd v).put hd2 v2).agr,hm⟩
theorem zSC {L D fn p p2 : Nat} {assign body : Code} {rec : LoopState → Loop} {ps : Array Tmp} {v v2 : Value} {W : World} {S' : List Nat} {Mr : List HA} {post postJ : List HA → Prop} (hs : St n F w0 S M a w) (hrec : Rec rec fn a.tmps ps assign body D) (hps : ps = #[p, p2]) (hd : Nat.blt p n = true) (hd2 : Nat.blt p2 n = true)
   (hM:Mem W S' (obj L (.loop (rec .ready))::Mr) W)
   (walk:∀ a1 w1,St n ((p2,v2)::(p,v)::F) W S' (obj L (.loop (rec .ready))::Mr) a1 w1→assign.wpIn (Fw (some L)) 0 P (Exit.then (λa2 w2=>∃ F2 M2,St n F2 W S' (obj L (.loop (rec .ready))::M2) a2 w2 ∧
     ∀ w3,St n F2 W S' (obj L (.loop (rec .busy))::M2) a2 w3→body.wpIn (Fw (some L)) 0 P (λe _ w4=>(e = .normal∧∃ N,post N∧Mem W S' (obj L (.loop (rec .busy))::N) w4)∨(e = .ret∧∃ N,postJ N∧Mem W S' (obj L (.loop (rec .busy))::N) w4)) a2 w3) (λ_ _ _=>False)) a1 w1) :
   YieldAt Fence.wide 0 P L #[v,v2] W λe W'=>(e = .returned (.bool true)∧∃ N,post N∧Mem W S' (obj L (.loop (rec .ready))::N) W')∨(e = .returned (.bool false)∧∃ N,postJ N∧Mem W S' (obj L (.loop (zTT rec))::N) W'):=by
 subst hps
 have hL:W.heap[L]? = some (.loop (rec .ready)):=hM.all _ (List.mem_cons_self)
 have hy:=run_yield (P:=P) (args:=#[v,v2]) hL (by rw [hrec];rfl)
 rw [hrec] at hy
 have e1:(((#[p,p2]:Array Tmp).zip #[v,v2]).foldl (λtmps (t,a)=>tmps.setIfInBounds t a) a.tmps)=(a.tmps.setIfInBounds p v).setIfInBounds p2 v2:=by simp
 dsimp only at hy
 rw [e1] at hy
 refine ⟨_,_,_,_,hy,roundIn_of_wpIn trivial ?_⟩
 refine wpIn_mono (walk _ _ (hs.round2 hd hd2 v v2 hM)) ?_
 intro e a2 w2 he
 cases e with
 | normal =>
   obtain ⟨F2,M2,hst,hb⟩:=he
   have hL2:w2.heap[L]? = some (.loop (rec .ready)):=hst.mem.all _ (List.mem_cons_self)
   have hbr:=run_beginRound (P:=P) hL2 (by rw [hrec])
   have ex:({ rec .ready with state:=.busy }:Loop)=rec .busy:=by rw [hrec,hrec]
   rw [ex] at hbr
   refine ⟨_,hbr,wpIn_mono (hb _ (hst.frame (.c .z .n) (zDa hL2))) ?_⟩
   rintro e a4 w4 (⟨rfl,N,hp,hm⟩ | ⟨rfl,N,hp,hm⟩)
   · have hL4:w4.heap[L]? = some (.loop (rec .busy)):=hm.all _ (List.mem_cons_self)
     have her:=run_endRound (P:=P) none hL4
     have ey:({ rec .busy with state:=if (none:Option Code).isNone=true then .ready else .done,pending:=none }:Loop)=rec .ready:=by rw [hrec,hrec];rfl
     rw [ey] at her
     exact ⟨_,_,her,.inl ⟨rfl,N,hp,hm.frame (.c .z .n) (zDa hL4)⟩⟩
   · have hL4:w4.heap[L]? = some (.loop (rec .busy)):=hm.all _ (List.mem_cons_self)
     have her:=run_endRound (P:=P) (some .ret) hL4
     have ey:({ rec .busy with state:=if (some Code.ret:Option Code).isNone=true then .ready else .done,pending:=some .ret }:Loop)=zTT rec:=by rw [zTT,hrec,hrec];rfl
     rw [ey] at her
     exact ⟨_,_,her,.inr ⟨rfl,N,hp,hm.frame (.c .z .n) (zDa hL4)⟩⟩
 | exit id=>exact he.elim
 | goto t=>exact he.elim
 | ret=>exact he.elim
 | panic ch=>exact he.elim
 | outgrown=>exact he.elim
theorem zKJ {m gf : Nat} {g : Operand} {ps : Array Tmp} {assign body : Code} {lb : List Value} (hs : St n F w0 S M a w) (hg : evo F g = some (.func (.func gf) #[] lb.toArray)) (eg : ∀ args w, (callFunc gf args).run P w = .ok (.enter gf args) w)
   (h:∀ fn D L W rec,Rec rec fn a.tmps ps assign body D→Mem w0 S (obj L (.loop (rec .ready))::obj D (.deferred (some []))::M) W →
     Calls P gf (.func (.yield L) #[] #[]::lb).toArray W λe W'=>(∃ v,e = .returned v)∧((∃ M2,Mem w0 S (obj L (.loop (rec .ready))::obj D (.deferred (some []))::M2) W' ∧
       ∀ W'',Mem w0 S (obj L (.loop (rec .exhausted))::obj D (.deferred (some []))::M2) W''→Q .normal { a with defers:={ target:=.collected D,args:=#[] }::a.defers } W'') ∨
       (∃ M2,Mem w0 S (obj L (.loop (zTT rec))::obj D (.deferred (some []))::M2) W' ∧
       ∀ W'',Mem w0 S (obj L (.loop (zch rec))::obj D (.deferred (some []))::M2) W''→Q .ret { a with defers:={ target:=.collected D,args:=#[] }::a.defers } W''))) :
   (Code.rangeFunc g ps assign body).wpIn (Fw none) m P Q a w:=by
 refine wpIn_rangeFunc λfn _=>?_
 have h1:=hs.mem.frame (zC5.n (M:=M)) (zFQ w (.deferred (some [])))
 have h2:=h1.frame (zC5.n (M:=[obj w.heap.size (.deferred (some []))]++M)) (zFQ (w.alloc (.deferred (some []))) (.loop { state:=.ready,pending:=none,fn,tmps:=a.tmps,params:=ps,assign,body,defers:=w.heap.size }))
 rw [World.size_alloc] at h2
 have he:=run_enterLoop_outer (P:=P) (w:=w) fn a.tmps ps assign body
 generalize (w.alloc (.deferred (some []))).alloc (.loop { state:=.ready,pending:=none,fn:=fn,tmps:=a.tmps,params:=ps,assign:=assign,body:=body,defers:=w.heap.size })=W1 at h2 he
 obtain ⟨rec,hrec⟩ : ∃ rec:LoopState→Loop,Rec rec fn a.tmps ps assign body w.heap.size:=⟨λs=>{ state:=s,pending:=none,fn,tmps:=a.tmps,params:=ps,assign,body,defers:=w.heap.size },λ_=>rfl⟩
 rw [← hrec .ready] at h2
 have hc:=h fn w.heap.size (w.heap.size+1) _ rec hrec h2
 refine ⟨w.heap.size+1,[{ target:=.collected w.heap.size,args:=#[] }],W1,{ target:=.fn (.func gf) lb.toArray,args:=#[.func (.yield (w.heap.size+1)) #[] #[]] },W1,gf,(.func (.yield (w.heap.size+1)) #[] #[]::lb).toArray,W1,he,?_,λ_ _=>trivial,?_,λhx=>(by cases hx),?_⟩
 · have hge:=hs.ev hg
   have hce:a.eval (.const (.func (.yield (w.heap.size+1)) #[] #[])) = .func (.yield (w.heap.size+1)) #[] #[]:=rfl
   simp [resolve,Deferred.ofValue,hge,hce]
 · simp [invoke,eg]
 · refine CallsIn.mono (callsIn_wide.2 hc) ?_
   rintro e W' ⟨⟨v,rfl⟩,⟨M2,hm,hq⟩ | ⟨M2,hm,hq⟩⟩
   · have hl:=hm.all _ (List.mem_cons_self)
     have hr:=run_endLoop (P:=P) hl (by rw [hrec];simp)
     have hx:({ rec .ready with state:=.exhausted }:Loop)=rec .exhausted:=by rw [hrec,hrec]
     rw [hx] at hr
     have hp:(rec .ready).pending=none:=by rw [hrec]
     rw [hp] at hr
     exact ⟨none,_,hr,hq _ (hm.frame (.c .z .n) (zDa hl))⟩
   · have hl:=hm.all _ (List.mem_cons_self)
     have hr:=run_endLoop (P:=P) hl (by rw [zTT,hrec];simp)
     have hx:({ zTT rec with state:=.exhausted }:Loop)=zch rec:=by rw [zTT,zch,hrec,hrec]
     rw [hx] at hr
     have hp:(zTT rec).pending=some .ret:=rfl
     rw [hp] at hr
     exact ⟨some .ret,_,hr,wpIn_ret (hq _ (hm.frame (.c .z .n) (zDa hl)))⟩
theorem zRZ {m:Nat} {F':Fence} {c:Operand} {x y:Code} {t:Bool} (hs:St n F w0 S M a w) (hc:evo F c=some (.bool t)) (ht:t=true→x.wpIn F' m P Q a w) (hf:t=false→y.wpIn F' m P Q a w):(Code.cond c x y).wpIn F' m P Q a w:=by
 cases t with
 | true=>exact wpIn_cond_true (hs.ev hc) (ht rfl)
 | false=>exact wpIn_cond_false (hs.ev hc) (hf rfl)
theorem zWS {fn:Func} {R:Ending→World→Prop} {D:Nat} {tmps:Array Value} {v:Value} (hr:(results fn tmps).run P (w.putObj D (.deferred none)) = .ok v (w.putObj D (.deferred none))) (hD:w.heap[D]? = some (.deferred (some []))) (hR:R (.returned v) (w.putObj D (.deferred none))):bodyPostM (Fw none) 1 P fn R .ret { tmps:=tmps,defers:=[{ target:=.collected D,args:=#[] }] } w:=by
 refine ⟨by simp,.inl ⟨_,_,rfl,run_takeDeferred hD,?_⟩⟩
 exact ⟨_,hr,hR⟩
theorem zcl {r:Option Nat} {m:Nat} {md:Region.Mode} (hQ:∀ a w,¬ Q .outgrown a w) (hd:∀ (i:Nat) (o:Oper),ops[i]? = some o→∀ c,o.op ≠ .defer c):∀ (fuel:Nat) (listed:Array Bool) (a:Act) (w:World),wpAny P md ops Q fuel listed a w→wpAnyIn (Fw r) m P md ops Q fuel listed a w:=by
 intro fuel
 induction fuel with
 | zero=>intro listed a w h;exact h
 | succ fuel ih =>
  intro listed a w h
  refine ⟨λhr=>h.1 hr,λi hi=>?_⟩
  have h:=h.2 i hi
  unfold wpOp at h
  unfold wpOpIn
  have ih':=λa w=>ih (listed.setIfInBounds i true) a w
  cases ho:ops[i]? with
  | none=>rw [ho] at h;exact ih _ _ _ h
  | some o =>
   rw [ho] at h
   dsimp only at h ⊢
   by_cases hw:Region.wanted o (yielded ops a.tmps)=true
   ·rw [if_pos hw] at h ⊢
    rcases h with h | ⟨_,a0,w0,h0⟩
    ·refine ⟨λ_ _=>trivial,?_⟩
     rw [Oper.semAt_eq _ _ _ (hd i o ho)]
     unfold Oper.wp at h
     generalize (execOp a.eval o).run P w=x at h
     cases x with
     | ok nx w' =>
      cases nx with
      | value v=>exact ih' _ _ h
      | skip=>exact ih' _ _ h
      | defer dd=>exact ih' _ _ h
      | enter f args =>
       have h:Calls P f args w' _:=h
       refine ⟨λhx=>(by cases hx),?_⟩
       refine CallsIn.mono (callsIn_wide.2 h) ?_
       intro e w'' he
       cases e with
       | returned v=>exact ih' _ _ he
       | panicked ch=>exact he
       | outgrown=>obtain ⟨a1,w1,h1⟩:=he;exact absurd h1 (hQ a1 w1)
      | row row args =>
       have h:Rows P row args w' _:=h
       refine ⟨λhx=>(by cases hx),λc cs _=>?_⟩
       obtain ⟨v,w'',hv,hs⟩:=h c cs
       exact ⟨v,w'',ih' _ _ hv,stepsIn_wide.2 hs⟩
      | _=>exact h.elim
     | halt hl w' =>
      cases hl with
      | panic v=>exact h
      | _=>exact h.elim
    ·exact absurd h0 (hQ a0 w0)
   ·rw [if_neg hw] at h ⊢
    exact ⟨λ_ _=>trivial,ih' _ _ h⟩
theorem zQK {r:Option Nat} {m id:Nat} {l:List Oper} (hm:P.follows .mixedOrders=true) (hQ:∀ a w,¬ Q .outgrown a w) (hd:zPH l) (h:zcK P Q l.toArray a w):(Code.region id l.toArray true).wpIn (Fw r) m P Q a w :=
 wpIn_region_any hm (zcl hQ (λi o ho=>hd o (List.mem_of_getElem? (by simpa using ho))) _ _ _ _ h)
theorem zRf {r : Option Nat} {m id : Nat} {l : List Oper} {Mp M1 : List HA} {B Xp : BL} (hQ : ∀ a w, ¬ Q .outgrown a w) (hnd : zPH l) (cs : List DC) (live : List Nat) (hs : St n F w0 S M a w) (tx : zDu M Xp Mp) (tk : zDu Mp B M1) (hb : zLM P F l cs = true)
   (h:zEb P n F w0 S Mp l B Xp cs 0 l cs [] [] [] λE R=>zZu R [] λDs=>(Ds.flatMap (·.X)=bls Xp∧zLu l Ds=true∧(∀ vs,Nsm vs 0 Ds=Ds.map (·.N vs))∧Ds.map (·.X)=cs.map (·.X Xp)∧Ds.map (·.use)=cs.map (·.use)∧zDK P l n F w0 S Mp Ds E 0 l cs) ∧
     pvF l live E F λG=>zGg (Mp++zTP (Ds.flatMap (·.use)) (λ_=>undef) 0 Ds) λM'=>(∀ vs,Mp++zTP (Ds.flatMap (·.use)) vs 0 Ds=M')∧∀ a w,St n G w0 S M' a w→Q .normal a w):(Code.region id l.toArray true).wpIn (Fw r) m P Q a w:=by
 simp only [zLM,Bool.and_eq_true] at hb
 obtain ⟨hm,hb⟩:=hb
 obtain ⟨E',R',h1,_,h3,h4⟩:=zGT tk l 0 cs [] [] [] _ h rfl rfl hb.2
 rw [List.append_nil] at h1 h4
 have h1:=zIO h1
 rw [List.append_nil] at h1
 obtain ⟨⟨hX,hu,hN,hx1,hx2,hT⟩,hfin⟩:=h1
 simp only [zLu,Bool.and_eq_true] at hu
 obtain ⟨hE,htr⟩:=h4 _ rfl ⟨(λk d v hk=>by cases hk),λk B hk=>by cases hk⟩
 replace htr:=htr (zNV hN) (zOO hx1 hx2) hT
 obtain ⟨GF,hg1,hg2⟩:=zJf (vs:=λ_=>undef) hfin
 obtain ⟨he,hg1⟩:=zBX.1 hg1
 have hp:M.Perm ((R'.reverse.flatMap (·.X))++Mp):=by rw [hX,zEu];exact tx.perm
 refine zQK hm hQ hnd (zII (Q:=Q) hm (hs.permM hp) rfl (zE0 _ _) hb.1 hu.1 hu.2 htr λa w vs hs hf=>?_)
 rw [zIY (hN vs),he vs] at hs
 refine hg1 a w (hg2 (λk d v hk=>?_) hs)
 obtain ⟨e1,e2,e3⟩:=hE.ok k d v hk
 obtain ⟨f1,f2⟩:=hf k e1
 rw [← e3 vs f2]
 exact f1.at_ e2
theorem zKS {fn : Func} {tmps : Array Value} {t1 t2 t3 : Nat} {r1 r2 r3 c1 c2 c3 : TypeId} {g1 g2 g3 : Nat} {v1 v2 v3 : Value} (hr : fn.results = #[.cell t1 r1, .cell t2 r2, .cell t3 r3]) (h1 : tmps[t1]? = some (pt g1 0)) (h2 : tmps[t2]? = some (pt g2 0)) (h3 : tmps[t3]? = some (pt g3 0)) (b1 : (blk g1 [v1] c1).p w) (b2 : (blk g2 [v2] c2).p w) (b3 : (blk g3 [v3] c3).p w)
   (a1:∀ w,(isAgg r1).run P w = .ok false w) (a2:∀ w,(isAgg r2).run P w = .ok false w) (a3:∀ w,(isAgg r3).run P w = .ok false w):(results fn tmps).run P w = .ok (.tuple #[v1,v2,v3]) w:=by
 have e1:=(zBL (i:=0) b1).trans (Nth.get .z)
 have e2:=(zBL (i:=0) b2).trans (Nth.get .z)
 have e3:=(zBL (i:=0) b3).trans (Nth.get .z)
 simp [results,hr,Array.getD_eq_getD_getElem?,h1,h2,h3,asAddr,loadVar,a1,a2,a3,run_load,e1,e2,e3]
theorem zb4 {fn : Func} {post : Value → List HA → Prop} {t1 t2 t3 : Nat} {r1 r2 r3 c1 c2 c3 : TypeId} {g1 g2 g3 : Nat} {v1 v2 v3 : Value} {M1 M2 M3 : List HA} (hs : St n F w0 S M a w) (hr : fn.results = #[.cell t1 r1, .cell t2 r2, .cell t3 r3]) (h1 : lk F t1 = some (pt g1 0)) (h2 : lk F t2 = some (pt g2 0)) (h3 : lk F t3 = some (pt g3 0)) (b1 : Del M (blk g1 [v1] c1) M1) (b2 : Del M (blk g2 [v2] c2) M2) (b3 : Del M (blk g3 [v3] c3) M3)
   (a1:∀ w,(isAgg r1).run P w = .ok false w) (a2:∀ w,(isAgg r2).run P w = .ok false w) (a3:∀ w,(isAgg r3).run P w = .ok false w) {X N:List HA} (hD:zC5 M X N) (hp:post (.tuple #[v1,v2,v3]) N):bodyPost P fn (Ret w0 S post) .ret a w :=
 bodyPost_ret (zKS hr (hs.agr _ _ h1) (hs.agr _ _ h2) (hs.agr _ _ h3) (hs.mem.del b1) (hs.mem.del b2) (hs.mem.del b3) a1 a2 a3) hs.dfr ⟨_,N,rfl,hp,hs.mem.drop hD⟩
theorem zOG {a:Act} (d:Deferred) (h:a.defers=[]):({ a with defers:=d::a.defers }:Act)={ tmps:=a.tmps,defers:=[d] }:=by rw [h]
theorem zXO {f : FuncId} {fn : Func} {c : Code} {args : List Value} {F0 : List (Nat × Value)} {R : Ending → World → Prop} {u : FrameMode} (hf : P.funcs[f]? = some fn) (hb : fn.body = some c) (hn : fn.ntmps = n) (hle : Nat.ble args.length n = true) (hini : Ini 0 args F0) (hM : Mem w S M w)
   (h:∀ a w',St n F0 w S M a w'→G P (bodyPost P fn R) (.code c []) a w'):CallsD P f args.toArray u w λe u' w'=>u'=u∧R e w':=by
 refine callsD_of_wp hf hb (h _ _ ?_)
 have hle':args.length≤n:=by simpa using hle
 subst hn
 refine ⟨by simp;omega,rfl,λt v hv=>?_,hM⟩
 obtain ⟨_,h2⟩:=hini.get t v hv
 simp only [Nat.sub_zero] at h2
 have hlt:t<args.length:=by
   rcases Nat.lt_or_ge t args.length with h | h
   · exact h
   · simp [List.getElem?_eq_none h] at h2
 rw [Array.getElem?_append_left (by simpa using hlt)]
 simpa using h2
theorem zXL {f : FuncId} {fn : Func} {c : Code} {args : List Value} {F0 : List (Nat × Value)} {R : Ending → World → Prop} (hf : P.funcs[f]? = some fn) (hb : fn.body = some c) (hn : fn.ntmps = n) (hle : Nat.ble args.length n = true) (hini : Ini 0 args F0) (hM : Mem w S M w)
   (h:∀ a w',St n F0 w S M a w'→G P (bodyPostD P fn R) (.code c []) a w'):Calls P f args.toArray w R:=by
 refine calls_of_wp_defers hf hb (h _ _ ?_)
 have hle':args.length≤n:=by simpa using hle
 subst hn
 refine ⟨by simp;omega,rfl,λt v hv=>?_,hM⟩
 obtain ⟨_,h2⟩:=hini.get t v hv
 simp only [Nat.sub_zero] at h2
 have hlt:t<args.length:=by
   rcases Nat.lt_or_ge t args.length with h | h
   · exact h
   · simp [List.getElem?_eq_none h] at h2
 rw [Array.getElem?_append_left (by simpa using hlt)]
 simpa using h2
def wDf (D:List Deferred) (a:Act):Act:={ a with defers:=a.defers++D }
def dfQ (D:List Deferred) (Q:Exit→Act→World→Prop):Exit→Act→World→Prop:=λe a w=>Q e (wDf D a) w
theorem zP9 {D:List Deferred} (d:Option Nat) (v:Value):wDf D (a.put d v)=(wDf D a).put d v:=by cases d<;>rfl
theorem zOc {D:List Deferred} (hQ:∀ a w,¬ Q .outgrown a w):∀ (l:List Oper) (a:Act) (w:World),wpList P ops (dfQ D Q) l a w→wpList P ops Q l (wDf D a) w:=by
 intro l
 induction l with
 | nil=>intro a w h;exact h
 | cons o l ih =>
  intro a w h
  have ih':∀ (d:Option Nat) (v:Value) (a:Act) (w:World),wpList P ops (dfQ D Q) l (a.put d v) w→wpList P ops Q l ((wDf D a).put d v) w:=λd v a w h=>by rw [← zP9];exact ih _ _ h
  simp only [wpList] at h ⊢
  by_cases hw:Region.wanted o (yielded ops a.tmps)=true
  ·rw [if_pos hw] at h
   rw [if_pos (show Region.wanted o (yielded ops (wDf D a).tmps)=true from hw)]
   rcases h with h | ⟨_,a0,w0,h0⟩
   ·left
    unfold Oper.wp at h ⊢
    have ev:(wDf D a).eval=a.eval:=rfl
    rw [ev]
    generalize (execOp a.eval o).run P w=x at h
    cases x with
    | ok nx w' =>
     cases nx with
     | value v=>exact ih' _ _ _ _ h
     | skip=>exact ih' _ _ _ _ h
     | defer dd=>exact ih' _ _ { a with defers:=dd::a.defers } _ h
     | enter f args =>
      have h:Calls P f args w' _:=h
      refine Calls.mono h ?_
      intro e w'' he
      cases e with
      | returned v=>exact ih' _ _ _ _ he
      | panicked ch=>exact he
      | outgrown=>obtain ⟨a1,w1,h1⟩:=he;exact absurd h1 (hQ _ _)
     | row row args =>
      have h:Rows P row args w' _:=h
      refine λc cs=>?_
      obtain ⟨v,w'',hv,hs⟩:=h c cs
      exact ⟨v,w'',ih' _ _ _ _ hv,hs⟩
     | _=>exact h.elim
    | halt hl w' =>
     cases hl with
     | panic v=>exact h
     | _=>exact h.elim
   ·exact absurd h0 (hQ _ _)
  ·rw [if_neg hw] at h
   rw [if_neg (show ¬ Region.wanted o (yielded ops (wDf D a).tmps)=true from hw)]
   exact ih' _ _ _ _ h
theorem zV9 {x:Operand} {f:FuncId} {cap:Array Value} (hs:St n F w0 S M a w) (hx:evo F x=some (.func (.func f) #[] cap)) (k:wpList P ops Q rest (wDf [{ target:=.fn (.func f) cap,args:=#[] }] a) w):wpList P ops Q (⟨none,.defer { callee:=.value x,args:=#[],argTypes:=#[] },ty,pos,af,none⟩::rest) a w:=by
 simp only [wpList]
 rw [if_pos (by simp [Region.wanted])]
 left
 have hr:(execOp a.eval (⟨none,.defer { callee:=.value x,args:=#[],argTypes:=#[] },ty,pos,af,none⟩ : Oper)).run P w = .ok (.defer { target:=.fn (.func f) cap,args:=#[] }) w:=by
  simp [execOp,resolve,Deferred.ofValue,hs.ev hx]
 unfold Oper.wp
 rw [hr,Oper.upon_defer]
 have e:({ a with defers:={ target:=.fn (.func f) cap,args:=#[] }::a.defers }:Act)=wDf [{ target:=.fn (.func f) cap,args:=#[] }] a:=by unfold wDf;rw [hs.dfr];rfl
 rw [e]
 exact k
theorem zSg {fn : Func} {R : Ending → World → Prop} {fv : Fn} {cap : Array Value} {f : FuncId} {args : Array Value} {t : Nat} {v : Value} (hs : St n F w0 S M a w) (hi : (invoke (.fn fv cap) #[]).run P w = .ok (.enter f args) w) (hr : fn.results = #[.tmp t]) (hv : lk F t = some v)
   (h:CallsD P f args .returning w λe u' w'=>u' = .returning∧(∃ u,e = .returned u)∧R (.returned v) w'):bodyPostD P fn R .ret (wDf [{ target:=.fn fv cap,args:=#[] }] a) w:=by
 show Leaves P fn a.tmps R (a.defers++_) .returning w
 rw [hs.dfr]
 refine leaves_cons (by simp) hi (h.mono ?_)
 rintro e u' w' ⟨rfl,⟨u,rfl⟩,hR⟩
 have hg:=hs.agr t v hv
 exact ⟨v,by rw [show v=a.tmps.getD t undef by simp [Array.getD_eq_getD_getElem?,hg]];exact results_tmp hr _ _ _,hR⟩
theorem zbk {f:FuncId} {fn:Func} {c:Code} {args:List Value} {F0:List (Nat×Value)} {R:Ending→World→Prop} (hf:P.funcs[f]? = some fn) (hb:fn.body=some c) (hn:fn.ntmps=n) (hle:Nat.ble args.length n=true) (hini:Ini 0 args F0) (hM:Mem w S M w)
 (h:∀ a w',St n F0 w S M a w'→c.wp P (bodyPostD P fn R) a w'):Calls P f args.toArray w R:=zXL hf hb hn hle hini hM h
theorem zYg {D:List Deferred} {md:Region.Mode} (hQ:∀ a w,¬ Q .outgrown a w):∀ (fuel:Nat) (listed:Array Bool) (a:Act) (w:World),wpAny P md ops (dfQ D Q) fuel listed a w→wpAny P md ops Q fuel listed (wDf D a) w:=by
 intro fuel
 induction fuel with
 | zero=>intro listed a w h;exact h
 | succ fuel ih =>
  intro listed a w h
  refine ⟨λhr=>h.1 hr,λi hi=>?_⟩
  have h:=h.2 i hi
  unfold wpOp at h ⊢
  have ih':∀ (d:Option Nat) (v:Value) (a:Act) (w:World),wpAny P md ops (dfQ D Q) fuel (listed.setIfInBounds i true) (a.put d v) w→wpAny P md ops Q fuel (listed.setIfInBounds i true) ((wDf D a).put d v) w:=λd v a w h=>by rw [← zP9];exact ih _ _ _ h
  cases ho:ops[i]? with
  | none=>rw [ho] at h;exact ih _ _ _ h
  | some o =>
   rw [ho] at h
   dsimp only at h ⊢
   by_cases hw:Region.wanted o (yielded ops a.tmps)=true
   ·rw [if_pos hw] at h
    rw [if_pos (show Region.wanted o (yielded ops (wDf D a).tmps)=true from hw)]
    rcases h with h | ⟨_,a0,w0,h0⟩
    ·left
     unfold Oper.wp at h ⊢
     have ev:(wDf D a).eval=a.eval:=rfl
     rw [ev]
     generalize (execOp a.eval o).run P w=x at h
     cases x with
     | ok nx w' =>
      cases nx with
      | value v=>exact ih' _ _ _ _ h
      | skip=>exact ih' _ _ _ _ h
      | defer dd=>exact ih' _ _ { a with defers:=dd::a.defers } _ h
      | enter f args =>
       have h:Calls P f args w' _:=h
       refine Calls.mono h ?_
       intro e w'' he
       cases e with
       | returned v=>exact ih' _ _ _ _ he
       | panicked ch=>exact he
       | outgrown=>obtain ⟨a1,w1,h1⟩:=he;exact absurd h1 (hQ _ _)
      | row row args =>
       have h:Rows P row args w' _:=h
       refine λc cs=>?_
       obtain ⟨v,w'',hv,hs⟩:=h c cs
       exact ⟨v,w'',ih' _ _ _ _ hv,hs⟩
      | _=>exact h.elim
     | halt hl w' =>
      cases hl with
      | panic v=>exact h
      | _=>exact h.elim
    ·exact absurd h0 (hQ _ _)
   ·rw [if_neg hw] at h
    rw [if_neg (show ¬ Region.wanted o (yielded ops (wDf D a).tmps)=true from hw)]
    exact ih' _ _ _ _ h
theorem zQE {D : List Deferred} {id : Nat} {l : List Oper} {Mp M1 : List HA} {B Xp : BL} (hQ : ∀ a w, ¬ Q .outgrown a w) (cs : List DC) (live : List Nat) (hs : St n F w0 S M a w) (tx : zDu M Xp Mp) (tk : zDu Mp B M1) (hb : zLM P F l cs = true)
   (h:zEb P n F w0 S Mp l B Xp cs 0 l cs [] [] [] λE R=>zZu R [] λDs=>(Ds.flatMap (·.X)=bls Xp∧zLu l Ds=true∧(∀ vs,Nsm vs 0 Ds=Ds.map (·.N vs))∧Ds.map (·.X)=cs.map (·.X Xp)∧Ds.map (·.use)=cs.map (·.use)∧zDK P l n F w0 S Mp Ds E 0 l cs) ∧
     pvF l live E F λG=>zGg (Mp++zTP (Ds.flatMap (·.use)) (λ_=>undef) 0 Ds) λM'=>(∀ vs,Mp++zTP (Ds.flatMap (·.use)) vs 0 Ds=M')∧∀ a w,St n G w0 S M' a w→Q .normal (wDf D a) w):(Code.region id l.toArray true).wp P Q (wDf D a) w:=by
 simp only [zLM,Bool.and_eq_true] at hb
 obtain ⟨hm,hb⟩:=hb
 obtain ⟨E',R',h1,_,h3,h4⟩:=zGT tk l 0 cs [] [] [] _ h rfl rfl hb.2
 rw [List.append_nil] at h1 h4
 have h1:=zIO h1
 rw [List.append_nil] at h1
 obtain ⟨⟨hX,hu,hN,hx1,hx2,hT⟩,hfin⟩:=h1
 simp only [zLu,Bool.and_eq_true] at hu
 obtain ⟨hE,htr⟩:=h4 _ rfl ⟨(λk d v hk=>by cases hk),λk B hk=>by cases hk⟩
 replace htr:=htr (zNV hN) (zOO hx1 hx2) hT
 obtain ⟨GF,hg1,hg2⟩:=zJf (vs:=λ_=>undef) hfin
 obtain ⟨he,hg1⟩:=zBX.1 hg1
 have hp:M.Perm ((R'.reverse.flatMap (·.X))++Mp):=by rw [hX,zEu];exact tx.perm
 refine wp_region_any hm (zYg hQ _ _ _ _ (zII (Q:=dfQ D Q) hm (hs.permM hp) rfl (zE0 _ _) hb.1 hu.1 hu.2 htr λa w vs hs hf=>?_))
 rw [zIY (hN vs),he vs] at hs
 refine hg1 a w (hg2 (λk d v hk=>?_) hs)
 obtain ⟨e1,e2,e3⟩:=hE.ok k d v hk
 obtain ⟨f1,f2⟩:=hf k e1
 rw [← e3 vs f2]
 exact f1.at_ e2
theorem zW1 {x:Operand} {v:Value} {t:TypeId} (hs:St n F w0 S M a w) (hx:evo F x=some v) (hm:∀ w,(Instr.makeInterface t v).run P w = .ok (.iface t v) w) (hd:Nat.blt d n=true) (k:∀ a w,St n ((d,.iface t v)::F) w0 S M a w→wpList P ops Q rest a w):wpList P ops Q (⟨some d,.makeInterface t x,ty,pos,af,none⟩::rest) a w :=
 zM hs (by simp [execOp,hs.ev hx,hm]) hd k
theorem zL9 {x : Operand} {t : TypeId} {u r : Value} {name : String} {f : FuncId} {xs : List Operand} {ats : Array TypeId} {vs : List Value} {v : Value} (hs : St n F w0 S M a w) (hx : evo F x = some (.iface t u)) (hv : Evs F xs vs) (hm : ∀ w, (method (P.types.size + Made.depth) t u name).run P w = .ok (f, r) w) (hcall : ∀ args w, (callFunc f args).run P w = .ok (.enter f args) w)
   (hc:Calls P f (r::vs).toArray w (zAh w v)) (hd:Nat.blt d n=true)
   (k:∀ a w,St n ((d,v)::F) w0 S M a w→wpList P ops Q rest a w):wpList P ops Q (⟨some d,.call { callee:=.invoke x name,args:=xs.toArray,argTypes:=ats },ty,pos,af,none⟩::rest) a w:=by
 have hr:(execOp a.eval (⟨some d,.call { callee:=.invoke x name,args:=xs.toArray,argTypes:=ats },ty,pos,af,none⟩ : Oper)).run P w = .ok (.enter f (r::vs).toArray) w:=by
   have he:(xs.toArray.map a.eval)=vs.toArray:=by rw [← hs.evs hv];simp
   simp [execOp,resolve,invoke,callMethod,hs.ev hx,he,hm,hcall]
 refine zHg rfl hr (post:=λv' N=>v'=v∧N=[]) (X:=[]) hc ?_
 rintro v' N w' ⟨hv',rfl⟩ hm'
 rw [hv']
 exact k _ _ ((hs.frame .n hm').put hd v)
theorem zLB {α:Type} [Inhabited α] {g:α→List Value} {size:Nat} (hg:∀ a,(g a).length=size) (l:List α) (j o sz:Nat) (h:j<l.length∧o+sz≤size):((l.flatMap g).drop (j*size+o)).take sz=((g (l.getD j default)).drop o).take sz:=by
 rw [← zAZ hg l j h.1,List.drop_take,List.drop_drop,List.take_take,Nat.min_eq_left (by omega)]
end Go.Sx
namespace Go.Proofs.YtljpfgacpofkpaaGreat
open Tryz
open Go Go.Sx Go.RowKit
set_option maxRecDepth 4000
set_option maxHeartbeats 1000000
theorem zOD (X:BitVec 64) (w0:World):Calls Tryz.prog 248 #[.int .u64 (X.toNat:Int)] w0 (zAh w0 (nI (zAv X.toNat))):=by
 have hx:=X.isLt
 refine zG (F0:=[(0,qI X)]) func248 rfl rfl rfl (.c .n) (Mem.nil _) ?_
 refine go 3 [] [4,2,0] .n ?_
 refine ifG rfl (λc_1=>?_) (λc_1=>?_)
 ·
  have l32:=zZD X 32 (by omega)
  have s32:=zEO X 32
  intro a w hs;simp only [Nat.reducePow] at s32
  revert a w hs
  refine go 1 [] [5] .n ?_
  intro a w hs;refine zAT (X:=X) (m:=32) hs rfl rfl rfl (by decide) rfl ?_
  refine goL 4 [] [8,2,0] .n ?_
  refine ifG rfl (λc_2=>?_) (λc_2=>?_)
  ·
   have l16:=zZD (X>>>32) 16 (by omega)
   have s16:=zEO (X>>>32) 16
   intro a w hs;simp only [Nat.reducePow] at s16
   revert a w hs
   refine go 1 [] [9,2] .n ?_
   intro a w hs;refine zAT (X:=X>>>32) (m:=16) hs rfl rfl rfl (by decide) rfl ?_
   refine goL 6 [] [14,2,0] .n ⟨by decide,?_⟩
   refine ifG rfl (λc_3=>?_) (λc_3=>?_)
   ·
    have l8:=zZD ((X>>>32)>>>16) 8 (by omega)
    have s8:=zEO ((X>>>32)>>>16) 8
    intro a w hs;simp only [Nat.reducePow] at s8
    revert a w hs
    refine go 1 [] [15,2] .n ?_
    intro a w hs;refine zAT (X:=(X>>>32)>>>16) (m:=8) hs rfl rfl rfl (by decide) rfl ?_
    refine goL 6 [] [20,19] .n ⟨by decide,?_⟩
    intro a w hs;refine zBJ (X:=((X>>>32)>>>16)>>>8) hs rfl rfl underlying252 underlying5 rfl ?_
    intro a w hs;refine zG9 (Y:=(((X>>>32)>>>16)>>>8).setWidth 8) hs rfl rfl rfl underlying9 zDm rfl ?_
    intro a w hs;refine zB4 hs rfl (bvr (BitVec.ofNat 8 (zAv ((((X>>>32)>>>16)>>>8).setWidth 8).toNat))) underlying5 underlying3 rfl ?_
    refine goL 2 [] [2] .n ⟨(by omega),?_⟩
    have l9:=zWw (((X>>>32)>>>16)>>>8) (by omega)
    intro a w hs;exact fin hs rfl rfl ⟨congrArg (Value.int .i64) (by omega),rfl⟩
   refine go 2 [] [20,19] .n ?_
   intro a w hs;refine zBJ (X:=(X>>>32)>>>16) hs rfl rfl underlying252 underlying5 rfl ?_
   intro a w hs;refine zG9 (Y:=((X>>>32)>>>16).setWidth 8) hs rfl rfl rfl underlying9 zDm rfl ?_
   intro a w hs;refine zB4 hs rfl (bvr (BitVec.ofNat 8 (zAv (((X>>>32)>>>16).setWidth 8).toNat))) underlying5 underlying3 rfl ?_
   refine goL 2 [] [2] .n ⟨(by omega),?_⟩
   have l9:=zWw ((X>>>32)>>>16) (by omega)
   intro a w hs;exact fin hs rfl rfl ⟨congrArg (Value.int .i64) (by omega),rfl⟩
  refine go 2 [] [14,2,0] .n ?_
  refine ifG rfl (λc_4=>?_) (λc_4=>?_)
  ·
   have l8:=zZD (X>>>32) 8 (by omega)
   have s8:=zEO (X>>>32) 8
   intro a w hs;simp only [Nat.reducePow] at s8
   revert a w hs
   refine go 1 [] [15,2] .n ?_
   intro a w hs;refine zAT (X:=X>>>32) (m:=8) hs rfl rfl rfl (by decide) rfl ?_
   refine goL 6 [] [20,19] .n ⟨by decide,?_⟩
   intro a w hs;refine zBJ (X:=(X>>>32)>>>8) hs rfl rfl underlying252 underlying5 rfl ?_
   intro a w hs;refine zG9 (Y:=((X>>>32)>>>8).setWidth 8) hs rfl rfl rfl underlying9 zDm rfl ?_
   intro a w hs;refine zB4 hs rfl (bvr (BitVec.ofNat 8 (zAv (((X>>>32)>>>8).setWidth 8).toNat))) underlying5 underlying3 rfl ?_
   refine goL 2 [] [2] .n ⟨(by omega),?_⟩
   have l9:=zWw ((X>>>32)>>>8) (by omega)
   intro a w hs;exact fin hs rfl rfl ⟨congrArg (Value.int .i64) (by omega),rfl⟩
  refine go 2 [] [20,19] .n ?_
  intro a w hs;refine zBJ (X:=X>>>32) hs rfl rfl underlying252 underlying5 rfl ?_
  intro a w hs;refine zG9 (Y:=(X>>>32).setWidth 8) hs rfl rfl rfl underlying9 zDm rfl ?_
  intro a w hs;refine zB4 hs rfl (bvr (BitVec.ofNat 8 (zAv ((X>>>32).setWidth 8).toNat))) underlying5 underlying3 rfl ?_
  refine goL 2 [] [2] .n ⟨(by omega),?_⟩
  have l9:=zWw (X>>>32) (by omega)
  intro a w hs;exact fin hs rfl rfl ⟨congrArg (Value.int .i64) (by omega),rfl⟩
 refine go 2 [] [8,2,0] .n ?_
 refine ifG rfl (λc_5=>?_) (λc_5=>?_)
 ·
  have l16:=zZD X 16 (by omega)
  have s16:=zEO X 16
  intro a w hs;simp only [Nat.reducePow] at s16
  revert a w hs
  refine go 1 [] [9,2] .n ?_
  intro a w hs;refine zAT (X:=X) (m:=16) hs rfl rfl rfl (by decide) rfl ?_
  refine goL 6 [] [14,2,0] .n ⟨by decide,?_⟩
  refine ifG rfl (λc_6=>?_) (λc_6=>?_)
  ·
   have l8:=zZD (X>>>16) 8 (by omega)
   have s8:=zEO (X>>>16) 8
   intro a w hs;simp only [Nat.reducePow] at s8
   revert a w hs
   refine go 1 [] [15,2] .n ?_
   intro a w hs;refine zAT (X:=X>>>16) (m:=8) hs rfl rfl rfl (by decide) rfl ?_
   refine goL 6 [] [20,19] .n ⟨by decide,?_⟩
   intro a w hs;refine zBJ (X:=(X>>>16)>>>8) hs rfl rfl underlying252 underlying5 rfl ?_
   intro a w hs;refine zG9 (Y:=((X>>>16)>>>8).setWidth 8) hs rfl rfl rfl underlying9 zDm rfl ?_
   intro a w hs;refine zB4 hs rfl (bvr (BitVec.ofNat 8 (zAv (((X>>>16)>>>8).setWidth 8).toNat))) underlying5 underlying3 rfl ?_
   refine goL 2 [] [2] .n ⟨(by omega),?_⟩
   have l9:=zWw ((X>>>16)>>>8) (by omega)
   intro a w hs;exact fin hs rfl rfl ⟨congrArg (Value.int .i64) (by omega),rfl⟩
  refine go 2 [] [20,19] .n ?_
  intro a w hs;refine zBJ (X:=X>>>16) hs rfl rfl underlying252 underlying5 rfl ?_
  intro a w hs;refine zG9 (Y:=(X>>>16).setWidth 8) hs rfl rfl rfl underlying9 zDm rfl ?_
  intro a w hs;refine zB4 hs rfl (bvr (BitVec.ofNat 8 (zAv ((X>>>16).setWidth 8).toNat))) underlying5 underlying3 rfl ?_
  refine goL 2 [] [2] .n ⟨(by omega),?_⟩
  have l9:=zWw (X>>>16) (by omega)
  intro a w hs;exact fin hs rfl rfl ⟨congrArg (Value.int .i64) (by omega),rfl⟩
 refine go 2 [] [14,2,0] .n ?_
 refine ifG rfl (λc_7=>?_) (λc_7=>?_)
 ·
  have l8:=zZD X 8 (by omega)
  have s8:=zEO X 8
  intro a w hs;simp only [Nat.reducePow] at s8
  revert a w hs
  refine go 1 [] [15,2] .n ?_
  intro a w hs;refine zAT (X:=X) (m:=8) hs rfl rfl rfl (by decide) rfl ?_
  refine goL 6 [] [20,19] .n ⟨by decide,?_⟩
  intro a w hs;refine zBJ (X:=X>>>8) hs rfl rfl underlying252 underlying5 rfl ?_
  intro a w hs;refine zG9 (Y:=(X>>>8).setWidth 8) hs rfl rfl rfl underlying9 zDm rfl ?_
  intro a w hs;refine zB4 hs rfl (bvr (BitVec.ofNat 8 (zAv ((X>>>8).setWidth 8).toNat))) underlying5 underlying3 rfl ?_
  refine goL 2 [] [2] .n ⟨(by omega),?_⟩
  have l9:=zWw (X>>>8) (by omega)
  intro a w hs;exact fin hs rfl rfl ⟨congrArg (Value.int .i64) (by omega),rfl⟩
 refine go 2 [] [20,19] .n ?_
 intro a w hs;refine zBJ (X:=X) hs rfl rfl underlying252 underlying5 rfl ?_
 intro a w hs;refine zG9 (Y:=(X).setWidth 8) hs rfl rfl rfl underlying9 zDm rfl ?_
 intro a w hs;refine zB4 hs rfl (bvr (BitVec.ofNat 8 (zAv ((X).setWidth 8).toNat))) underlying5 underlying3 rfl ?_
 refine goL 2 [] [2] .n ⟨(by omega),?_⟩
 have l9:=zWw X (by omega)
 intro a w hs;exact fin hs rfl rfl ⟨congrArg (Value.int .i64) (by omega),rfl⟩
theorem zXK (X:BitVec 64) (w0:World):Calls Tryz.prog 249 #[.int .u64 (X.toNat:Int)] w0 (zAh w0 (nI (zBd X.toNat))):=by
 have hx:=X.isLt
 have hl:=zDH hx
 refine zG (F0:=[(0,qI X)]) func249 rfl rfl rfl (.c .n) (Mem.nil _) ?_
 refine go 2 [] [3] .n ?_
 intro a w hs;refine zB (v:=nI (zAv X.toNat)) hs (.c rfl .n) call248 (zOD X _) rfl ?_
 refine goL 3 [] [7] .n ⟨(by omega),(by omega),?_⟩
 intro a w hs;refine zY7 hs rfl rfl (by omega) rfl ?_
 refine goL 1 [] [2] .n ?_
 intro a w hs;exact fin hs rfl rfl ⟨congrArg (Value.int .i64) (zTd X),rfl⟩
theorem zEW (X:BitVec 64) (w0:World):Calls Tryz.prog 201 #[.int .u64 (X.toNat:Int)] w0 (Ret w0 [] λr N=>N=[row r 5 1 (zBd X.toNat) (zD (zCX X.toNat))]):=by
 have hvl:=zC3 X.toNat
 have hvp:=zC8 X.toNat
 refine zG (F0:=[(0,qI X)]) func201 rfl rfl rfl (.c .n) (Mem.nil _) ?_
 refine go 2 [] [5,0] .n ?_
 intro a w hs;refine zB (v:=nI (zBd X.toNat)) hs (.c rfl .n) call249 (zXK X _) rfl ?_
 intro a w hs;refine zcO (m:=zBd X.toNat) (bytes:=1) hs rfl rfl underlying28 (i:=Tryz.t5) rfl rfl rfl rfl (by show 1*(zBd X.toNat)≤281474976710656;omega) (by omega) rfl ?_;intro v1
 refine cl (·.rerow .z (m':=zBd X.toNat) (xs':=zD (zMG X (zBd X.toNat) 0)) (by omega) (by simp [zD,zKw,zMG])) ?_
 refine goL 2 [] [8,3,0] .n ?_
 intro a w hs;refine zAG hs rfl (zK (hs.mem.del .z)).isSl underlying28 rfl ?_
 refine goL 1 [] [10,9,3,0] .n ?_
 intro a w hs;refine zCC (λmm_ a w=>∃ k:Nat,mm_=zBd X.toNat-k∧St 32 [(0,qI X),(3,v1),(9,nI (zBd X.toNat)),(10,zI (k:Int))] w0 [] [row v1 5 1 (zBd X.toNat) (zD (zMG X (zBd X.toNat) k))] a w∧k≤zBd X.toNat) ⟨0,rfl,hs.sub (.c rfl (.c rfl (.c rfl (.c rfl .n)))),by omega⟩ ?_
 clear hs w a;rintro mm_ a w ⟨k,rfl,hs,hI1_0⟩
 have hlp:=zDN X (zBd X.toNat) k
 revert a w hs
 refine go 1 [] [11,0,3,9,10] .n ?_
 refine ifG rfl (λc_2=>?_) (λc_2=>?_)
 ·
  refine go 7 [] [17,15,14,13,0,3,9,10] .n ⟨(by omega),?_⟩
  have hv_:(7*(k:Int):Int)=(((7*k:Nat):Int):Int):=by omega
  intro a w hs;rw [hv_] at hs;clear hv_
  refine zAT (X:=X) (m:=(7*k)) hs rfl rfl rfl rfl rfl ?_
  intro a w hs;refine zBJ (X:=X>>>(7*k)) hs rfl rfl underlying252 underlying5 rfl ?_
  intro a w hs;refine zKA (X:=(X>>>(7*k)).setWidth 8) (Y:=128#8) hs rfl rfl rfl (by decide) rfl ?_
  intro a w hs;refine zA9 (j:=k) hs rfl rfl (zK (hs.mem.del .z)) rfl (by omega) underlying28 sizeOf5 rfl ?_
  intro a w hs;refine zNH hs rfl rfl .z (by omega) rfl sizeOf5 ?_
  refine cl (·.rerow .z (m':=zBd X.toNat) (xs':=zD ((zMG X (zBd X.toNat) k).set k (((X>>>(7*k)).setWidth 8)|||(128#8)))) (rfl) ((zFR _ _ _).symm)) ?_
  refine goL 2 [] [10,0,3,9] .n ⟨(by omega),?_⟩
  intro a w hs;refine ⟨_,?_,k+1,rfl,hs.sub (.c rfl (.c rfl (.c rfl (.c rfl .n)))),by omega⟩
  omega
 refine go 2 [] [24,23,3] .n ?_
 intro a w hs;refine zAG hs rfl (zK (hs.mem.del .z)).isSl underlying28 rfl ?_
 refine goL 1 [] [26,23,3] .n ⟨(by omega),?_⟩
 have hv_:(((zBd X.toNat:Nat):Int)-1:Int)=(((zBd X.toNat-1:Nat):Int):Int):=by omega
 intro a w hs;rw [hv_] at hs;clear hv_
 refine zA9 (j:=(zBd X.toNat-1)) hs rfl rfl (zK (hs.mem.del .z)) rfl (by omega) underlying28 sizeOf5 rfl ?_
 intro a w hs;refine zBf hs rfl (zK (hs.mem.del .z)) (zB9 (zMG X (zBd X.toNat) k) (by first | omega | (simp;omega))) isAgg5 rfl ?_
 intro a w hs;refine zEw (X:=(zMG X (zBd X.toNat) k).getD (zBd X.toNat-1) 0) (Y:=128#8) hs rfl rfl rfl (by decide) rfl ?_
 intro a w hs;refine zA9 (j:=(zBd X.toNat-1)) hs rfl rfl (zK (hs.mem.del .z)) rfl (by omega) underlying28 sizeOf5 rfl ?_
 intro a w hs;refine zNH hs rfl rfl .z (by omega) rfl sizeOf5 ?_
 refine cl (·.rerow .z (m':=zBd X.toNat) (xs':=zD ((zMG X (zBd X.toNat) k).set (zBd X.toNat-1) (((zMG X (zBd X.toNat) k).getD (zBd X.toNat-1) 0) &&& ~~~(128#8)))) (rfl) ((zFR _ _ _).symm)) ?_
 refine goL 2 [] [2] .n ?_
 intro a w hs;replace hs:=hs.rerow .z (m':=zBd X.toNat) (xs':=zD (zCX X.toNat)) (by omega) (by rw [show k=zBd X.toNat by omega];exact congrArg zD (zaM X _ rfl))
 exact fin hs rfl rfl rfl
theorem zaB (v:Value) (m:Nat) (bs:List zQ) (w0:World) (hb:Rd w0 [] v 1 m (zD bs)):Calls Tryz.prog 276 #[v] w0 (zAh w0 (.tuple #[.int .u64 (((zCW bs).1.toNat:Nat):Int),nI ((zCW bs).2.1),nI ((zCW bs).2.2)])):=by
 have hbl:bs.length=m:=by have:=hb.len;simpa [zD] using this
 have hbe:m≤maxLen:=hb.le
 simp only [maxLen] at hbe
 refine zG (F0:=[(0,v)]) func276 rfl rfl rfl (.c .n) (Mem.nil _) ?_
 refine go 4 [] [9,0] .n ?_
 intro a w hs;refine zAG hs rfl (hs.rd0 hb).isSl underlying28 rfl ?_
 refine goL 1 [] [11,0] .n ?_
 refine ifG rfl (λc_1=>?_) (λc_1=>?_)
 ·
  refine go 3 [] [4,3,2] .n ?_
  intro a w hs;exact zFO hs rfl rfl rfl rfl ⟨by first | (rw [zCS (by omega)];rfl) | (rw [zB5 (i:=i) hI1_2 (by omega) (by omega) (by omega) (by rw [← BitVec.toNat_inj];omega)];rfl) | (rw [zB7 (i:=i) hI1_2 (by omega) (by omega) (by omega) (by omega)];rfl) | (rw [zCl (i:=i) hI1_2 (by omega) (by omega) (by omega) (by rw [← BitVec.toNat_inj];omega) (by omega),← zHV bs i (by omega) (by omega)];rfl) | (rw [zB6 (by omega)];rfl) | (rw [zBS (by omega) (by omega) (by omega)];rfl),rfl⟩
 refine go 2 [] [12,5,0] .n ?_
 intro a w hs;refine zAG hs rfl (hs.rd0 hb).isSl underlying28 rfl ?_
 refine goL 2 [] [15,14,5,0] .n ?_
 intro a w hs;refine zCC (λmm_ a w=>∃ i:Nat,mm_=10-i∧St 60 [(0,v),(5,qI (BitVec.ofNat 64 (zEl (bs.take i)))),(14,zI (min (m:Int) 10)),(15,zI (i:Int))] w0 [] [] a w∧i≤m∧i≤10∧i≤zBA 10 bs) ⟨0,rfl,hs.sub (.c rfl (.c (congrArg (λz:BitVec 64=>some (Value.int .u64 ((z.toNat:Nat):Int))) (show 0#64=BitVec.ofNat 64 (zEl (bs.take 0)) by rw [List.take_zero];rfl)) (.c rfl (.c rfl .n)))),by omega,by omega,Nat.zero_le _⟩ ?_
 clear hs w a;rintro mm_ a w ⟨i,rfl,hs,hI1_0,hI1_1,hI1_2⟩
 revert a w hs
 refine go 1 [] [16,0,5,14,15] .n ?_
 refine ifG rfl (λc_2=>?_) (λc_2=>?_)
 ·
  refine go 4 [] [19,18,6,0,5,14,15] .n ?_
  intro a w hs;refine zA9 (j:=i) hs rfl rfl (hs.rd0 hb) rfl (by omega) underlying28 sizeOf5 rfl ?_
  intro a w hs;refine zBf hs rfl (hs.rd0 hb) (zB9 bs (by first | omega | (simp;omega))) isAgg5 rfl ?_
  refine goL 2 [] [22,7,6,0,5,14,15] .n ?_
  intro a w hs;refine zEw (X:=bs.getD i 0) (Y:=128#8) hs rfl rfl rfl (by decide) rfl ?_
  intro a w hs;refine zG6 (X:=(bs.getD i 0) &&& ~~~(128#8)) hs rfl rfl underlying5 underlying252 rfl ?_
  refine goL 2 [] [26,24,7,6,0,5,14,15] .n ⟨(by omega),?_⟩
  have hv_:(7*(i:Int):Int)=(((7*i:Nat):Int):Int):=by omega
  intro a w hs;rw [hv_] at hs;clear hv_
  refine zDF (X:=((bs.getD i 0) &&& ~~~(128#8)).setWidth 64) (m:=(7*i)) hs rfl rfl rfl rfl rfl ?_
  refine goL 4 [] [30,28,8,7,6,0,5,14,15] .n ⟨(by omega),?_⟩
  have hv_:(7*(i:Int):Int)=(((7*i:Nat):Int):Int):=by omega
  intro a w hs;rw [hv_] at hs;clear hv_
  refine zAT (X:=(((bs.getD i 0) &&& ~~~(128#8)).setWidth 64)<<<(7*i)) (m:=(7*i)) hs rfl rfl rfl rfl rfl ?_
  refine goL 1 [] [32,31,8,7,6,0,5,14,15] .n ?_
  intro a w hs;refine zEw (X:=bs.getD i 0) (Y:=128#8) hs rfl rfl rfl (by decide) rfl ?_
  intro a w hs;refine zG6 (X:=(bs.getD i 0) &&& ~~~(128#8)) hs rfl rfl underlying5 underlying252 rfl ?_
  refine goL 2 [] [36,8,7,6,0,5,14,15] .n ?_
  intro a w hs;refine zX (b:=!(((((((((bs.getD i 0) &&& ~~~(128#8)).setWidth 64)<<<(7*i))>>>(7*i)).toNat:Nat):Int):Int)==(((((bs.getD i 0) &&& ~~~(128#8)).setWidth 64).toNat:Nat):Int))) (λc_3=>?_) (λc_3=>?_)
  ·
   rw [c_3] at hs
   replace c_3:=zFW c_3
   replace c_3:=zAW c_3
   revert a w hs
   refine go 3 [] [39,8,7,6,0,5,14,15] .n ?_
   refine ifG rfl (λc_4=>?_) (λc_4=>?_)
   ·
    refine go 3 [] [4,3,2] .n ?_
    intro a w hs;exact zFO hs rfl rfl rfl rfl ⟨by first | (rw [zCS (by omega)];rfl) | (rw [zB5 (i:=i) hI1_2 (by omega) (by omega) (by omega) (by rw [← BitVec.toNat_inj];omega)];rfl) | (rw [zB7 (i:=i) hI1_2 (by omega) (by omega) (by omega) (by omega)];rfl) | (rw [zCl (i:=i) hI1_2 (by omega) (by omega) (by omega) (by rw [← BitVec.toNat_inj];omega) (by omega),← zHV bs i (by omega) (by omega)];rfl) | (rw [zB6 (by omega)];rfl) | (rw [zBS (by omega) (by omega) (by omega)];rfl),rfl⟩
   refine go 2 [] [41,40,7,6,0,14,15] .n ?_
   intro a w hs;refine zGS (X:=BitVec.ofNat 64 (zEl (bs.take i))) (Y:=(((bs.getD i 0) &&& ~~~(128#8)).setWidth 64)<<<(7*i)) hs rfl rfl rfl rfl rfl ?_
   refine goL 4 [] [46,5,7,6,0,14,15] .n ?_
   refine ifG rfl (λc_5=>?_) (λc_5=>?_)
   ·
    refine go 2 [] [15,5,0,14] .n ⟨(by omega),?_⟩
    intro a w hs;rw [zHV bs i (by omega) (by omega)] at hs
    refine ⟨_,?_,i+1,rfl,hs.sub (.c rfl (.c rfl (.c rfl (.c rfl .n)))),by omega,by omega,zFI 10 i bs hI1_2 (by omega) (by omega) (by omega)⟩
    omega
   refine go 3 [] [52,5,6] .n ?_
   intro a w hs;refine zX (b:=((((bs.getD i 0).toNat:Nat):Int):Int)==0) (λc_6=>?_) (λc_6=>?_)
   ·
    rw [c_6] at hs
    replace c_6:=eq_of_beq c_6
    revert a w hs
    refine go 4 [] [49,5,6] .n ?_
    refine ifG rfl (λc_7=>?_) (λc_7=>?_)
    ·
     refine go 3 [] [4,3,2] .n ?_
     intro a w hs;exact zFO hs rfl rfl rfl rfl ⟨by first | (rw [zCS (by omega)];rfl) | (rw [zB5 (i:=i) hI1_2 (by omega) (by omega) (by omega) (by rw [← BitVec.toNat_inj];omega)];rfl) | (rw [zB7 (i:=i) hI1_2 (by omega) (by omega) (by omega) (by omega)];rfl) | (rw [zCl (i:=i) hI1_2 (by omega) (by omega) (by omega) (by rw [← BitVec.toNat_inj];omega) (by omega),← zHV bs i (by omega) (by omega)];rfl) | (rw [zB6 (by omega)];rfl) | (rw [zBS (by omega) (by omega) (by omega)];rfl),rfl⟩
    refine go 6 [] [4,3,2] .n ⟨(by omega),?_⟩
    intro a w hs;exact zFO hs rfl rfl rfl rfl ⟨by first | (rw [zCS (by omega)];rfl) | (rw [zB5 (i:=i) hI1_2 (by omega) (by omega) (by omega) (by rw [← BitVec.toNat_inj];omega)];rfl) | (rw [zB7 (i:=i) hI1_2 (by omega) (by omega) (by omega) (by omega)];rfl) | (rw [zCl (i:=i) hI1_2 (by omega) (by omega) (by omega) (by rw [← BitVec.toNat_inj];omega) (by omega),← zHV bs i (by omega) (by omega)];rfl) | (rw [zB6 (by omega)];rfl) | (rw [zBS (by omega) (by omega) (by omega)];rfl),rfl⟩
   rw [c_6] at hs
   replace c_6:=zAW c_6
   revert a w hs
   refine go 11 [] [4,3,2] .n ⟨(by omega),?_⟩
   intro a w hs;exact zFO hs rfl rfl rfl rfl ⟨by first | (rw [zCS (by omega)];rfl) | (rw [zB5 (i:=i) hI1_2 (by omega) (by omega) (by omega) (by rw [← BitVec.toNat_inj];omega)];rfl) | (rw [zB7 (i:=i) hI1_2 (by omega) (by omega) (by omega) (by omega)];rfl) | (rw [zCl (i:=i) hI1_2 (by omega) (by omega) (by omega) (by rw [← BitVec.toNat_inj];omega) (by omega),← zHV bs i (by omega) (by omega)];rfl) | (rw [zB6 (by omega)];rfl) | (rw [zBS (by omega) (by omega) (by omega)];rfl),rfl⟩
  rw [c_3] at hs
  replace c_3:=zFX c_3
  replace c_3:=eq_of_beq c_3
  revert a w hs
  refine go 6 [] [41,40,7,6,0,14,15] .n ?_
  intro a w hs;refine zGS (X:=BitVec.ofNat 64 (zEl (bs.take i))) (Y:=(((bs.getD i 0) &&& ~~~(128#8)).setWidth 64)<<<(7*i)) hs rfl rfl rfl rfl rfl ?_
  refine goL 4 [] [46,5,7,6,0,14,15] .n ?_
  refine ifG rfl (λc_8=>?_) (λc_8=>?_)
  ·
   refine go 2 [] [15,5,0,14] .n ⟨(by omega),?_⟩
   intro a w hs;rw [zHV bs i (by omega) (by omega)] at hs
   refine ⟨_,?_,i+1,rfl,hs.sub (.c rfl (.c rfl (.c rfl (.c rfl .n)))),by omega,by omega,zFI 10 i bs hI1_2 (by omega) (by omega) (by omega)⟩
   omega
  refine go 3 [] [52,5,6] .n ?_
  intro a w hs;refine zX (b:=((((bs.getD i 0).toNat:Nat):Int):Int)==0) (λc_9=>?_) (λc_9=>?_)
  ·
   rw [c_9] at hs
   replace c_9:=eq_of_beq c_9
   revert a w hs
   refine go 4 [] [49,5,6] .n ?_
   refine ifG rfl (λc_10=>?_) (λc_10=>?_)
   ·
    refine go 3 [] [4,3,2] .n ?_
    intro a w hs;exact zFO hs rfl rfl rfl rfl ⟨by first | (rw [zCS (by omega)];rfl) | (rw [zB5 (i:=i) hI1_2 (by omega) (by omega) (by omega) (by rw [← BitVec.toNat_inj];omega)];rfl) | (rw [zB7 (i:=i) hI1_2 (by omega) (by omega) (by omega) (by omega)];rfl) | (rw [zCl (i:=i) hI1_2 (by omega) (by omega) (by omega) (by rw [← BitVec.toNat_inj];omega) (by omega),← zHV bs i (by omega) (by omega)];rfl) | (rw [zB6 (by omega)];rfl) | (rw [zBS (by omega) (by omega) (by omega)];rfl),rfl⟩
   refine go 6 [] [4,3,2] .n ⟨(by omega),?_⟩
   intro a w hs;exact zFO hs rfl rfl rfl rfl ⟨by first | (rw [zCS (by omega)];rfl) | (rw [zB5 (i:=i) hI1_2 (by omega) (by omega) (by omega) (by rw [← BitVec.toNat_inj];omega)];rfl) | (rw [zB7 (i:=i) hI1_2 (by omega) (by omega) (by omega) (by omega)];rfl) | (rw [zCl (i:=i) hI1_2 (by omega) (by omega) (by omega) (by rw [← BitVec.toNat_inj];omega) (by omega),← zHV bs i (by omega) (by omega)];rfl) | (rw [zB6 (by omega)];rfl) | (rw [zBS (by omega) (by omega) (by omega)];rfl),rfl⟩
  rw [c_9] at hs
  replace c_9:=zAW c_9
  revert a w hs
  refine go 11 [] [4,3,2] .n ⟨(by omega),?_⟩
  intro a w hs;exact zFO hs rfl rfl rfl rfl ⟨by first | (rw [zCS (by omega)];rfl) | (rw [zB5 (i:=i) hI1_2 (by omega) (by omega) (by omega) (by rw [← BitVec.toNat_inj];omega)];rfl) | (rw [zB7 (i:=i) hI1_2 (by omega) (by omega) (by omega) (by omega)];rfl) | (rw [zCl (i:=i) hI1_2 (by omega) (by omega) (by omega) (by rw [← BitVec.toNat_inj];omega) (by omega),← zHV bs i (by omega) (by omega)];rfl) | (rw [zB6 (by omega)];rfl) | (rw [zBS (by omega) (by omega) (by omega)];rfl),rfl⟩
 refine go 1 [] [57] .n ?_
 intro a w hs;refine zAG hs rfl (hs.rd0 hb).isSl underlying28 rfl ?_
 refine goL 1 [] [59] .n ?_
 refine ifG rfl (λc_11=>?_) (λc_11=>?_)
 ·
  refine go 3 [] [4,3,2] .n ?_
  intro a w hs;exact zFO hs rfl rfl rfl rfl ⟨by first | (rw [zCS (by omega)];rfl) | (rw [zB5 (i:=i) hI1_2 (by omega) (by omega) (by omega) (by rw [← BitVec.toNat_inj];omega)];rfl) | (rw [zB7 (i:=i) hI1_2 (by omega) (by omega) (by omega) (by omega)];rfl) | (rw [zCl (i:=i) hI1_2 (by omega) (by omega) (by omega) (by rw [← BitVec.toNat_inj];omega) (by omega),← zHV bs i (by omega) (by omega)];rfl) | (rw [zB6 (by omega)];rfl) | (rw [zBS (by omega) (by omega) (by omega)];rfl),rfl⟩
 refine go 3 [] [4,3,2] .n ?_
 intro a w hs;exact zFO hs rfl rfl rfl rfl ⟨by first | (rw [zCS (by omega)];rfl) | (rw [zB5 (i:=i) hI1_2 (by omega) (by omega) (by omega) (by rw [← BitVec.toNat_inj];omega)];rfl) | (rw [zB7 (i:=i) hI1_2 (by omega) (by omega) (by omega) (by omega)];rfl) | (rw [zCl (i:=i) hI1_2 (by omega) (by omega) (by omega) (by rw [← BitVec.toNat_inj];omega) (by omega),← zHV bs i (by omega) (by omega)];rfl) | (rw [zB6 (by omega)];rfl) | (rw [zBS (by omega) (by omega) (by omega)];rfl),rfl⟩
theorem zRR (p:Int) (w0:World) (hp : -9223372036854775808≤p∧p≤9223372036854775807):Calls Tryz.prog 200 #[.int .i64 p] w0 (zAh w0 (qI (zGY p))):=by
 refine zG (F0:=[(0,zI p)]) func200 rfl rfl rfl (.c .n) (Mem.nil _) ?_
 refine go 2 [] [3,0] .n ?_
 intro a w hs;refine zYw (m:=1) hs rfl rfl (by decide) rfl ?_
 intro a w hs;refine zAg hs rfl underlying2 underlying252 rfl ?_
 refine goL 1 [] [6,5] .n ?_
 intro a w hs;refine zQl (m:=63) hs rfl rfl (by decide) rfl ?_
 intro a w hs;refine zAg hs rfl underlying2 underlying252 rfl ?_
 intro a w hs;refine zOz (X:=BitVec.ofInt 64 (IntKind.i64.wrap (p*2 ^ (min 1 64)))) (Y:=BitVec.ofInt 64 ((p).fdiv (2 ^ (min 63 64)))) hs rfl rfl rfl rfl rfl ?_
 refine goL 1 [] [2] .n ?_
 intro a w hs;exact fin hs rfl rfl ⟨by rw [zbL p hp],rfl⟩
theorem zad (X:BitVec 64) (w0:World):Calls Tryz.prog 277 #[.int .u64 (X.toNat:Int)] w0 (zAh w0 (zI (zPJ X))):=by
 refine zG (F0:=[(0,qI X)]) func277 rfl rfl rfl (.c .n) (Mem.nil _) ?_
 refine go 2 [] [3,0] .n ?_
 intro a w hs;refine zAT (X:=X) (m:=1) hs rfl rfl rfl (by decide) rfl ?_
 intro a w hs;refine zAV (X:=X>>>1) hs rfl rfl underlying252 underlying2 rfl ?_
 refine goL 1 [] [6,5] .n ?_
 intro a w hs;refine zDE (X:=X) (Y:=1#64) hs rfl rfl rfl (by decide) rfl ?_
 intro a w hs;refine zAV (X:=X&&&(1#64)) hs rfl rfl underlying252 underlying2 rfl ?_
 refine goL 1 [] [9,5] .n ⟨(by rw [zbl];omega),?_⟩
 intro a w hs;refine zZj hs rfl rfl rfl ?_
 refine goL 1 [] [2] .n ?_
 intro a w hs;exact fin hs rfl rfl ⟨by rw [zbS X],rfl⟩
end Go.Proofs.YtljpfgacpofkpaaGreat
