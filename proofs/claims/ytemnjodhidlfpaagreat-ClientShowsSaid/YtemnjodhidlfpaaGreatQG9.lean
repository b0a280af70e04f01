import Derived.Test.YtemnjodhidlfpaaGreatQSxStos
import Derived.Test.YtemnjodhidlfpaaGreatQSxBasB
import Derived.Defers
import Derived.OrdersIn
import Derived.Test.YtemnjodhidlfpaaGreatQSxDel
import Derived.Test.YtemnjodhidlfpaaGreatQSxRecs
import Derived.KernelRfl
import Derived.Test.YtemnjodhidlfpaaGreatProg
/- Ranges over a function whose rounds may leave the loop; deferred calls. -/
set_option linter.unusedVariables false
set_option linter.unusedSimpArgs false
namespace Go.Sx
open Go.RowKit
variable {P : Program} {ops : Array Oper} {Q : Exit → Act → World → Prop} {rest : List Oper} {n : Nat} {F : List (Nat × Value)} {w0 : World} {S : List Nat} {M : List HA} {a : Act} {w : World}
variable {d : Nat} {ty : TypeId} {pos : String} {af : Array Edge}
/-! ### Rounds that may leave -/
theorem zSD {m L : Nat} {x : Operand} {xs : List Operand} {ats : Array TypeId} {vs : List Value} {X M' : List HA} {post : Bool → List HA → Prop} (hs : St n F w0 S M a w) (hx : evo F x = some (.func (.yield L) #[] #[])) (hv : Evs F xs vs) (hX : zCy M X M')
   (hy:∀ W:World,(∀ h ∈ X,h.p W) → (zO X).Nodup → YieldAt Fence.wide (m - 1) P L vs.toArray W fun e W'=>∃ b,e = .returned (.bool b) ∧ ∃ N,post b N ∧ Mem W (zO X) N W') (hd:Nat.blt d n = true)
   (k:∀ b N a w,post b N → St n ((d,.bool b) :: F) w0 S (N ++ M') a w → wpListIn (Fw none) m P ops Q rest a w):wpListIn (Fw none) m P ops Q (⟨some d,.call { callee:=.value x,args:=xs.toArray,argTypes:=ats },ty,pos,af,none⟩ :: rest) a w:=by
 have hall:∀ h ∈ X,h.p w:=fun h hh=>hs.mem.all h ((hX.mem h).2 (.inl hh))
 have hnd:(zO X).Nodup:=(List.nodup_append.1 (hX.perm.nodup_iff.1 hs.mem.nd)).1
 obtain ⟨fn,tmps,assign,body,hy1,hy2⟩:=hy w hall hnd
 have hr:(execOp a.eval ⟨some d,.call { callee:=.value x,args:=xs.toArray,argTypes:=ats },ty,pos,af,none⟩).run P w = .ok (.round L fn tmps assign body) w:=by
   simp [execOp,resolve,invoke,Deferred.ofValue,hs.ev hx,hs.evs hv,hy1]
 simp only [wpListIn]
 rw [if_pos (by simp [Region.wanted])]
 refine ⟨fun _ _=>trivial,?_⟩
 have hr':(Oper.semAt (Fw none).round a.eval ⟨some d,.call { callee:=.value x,args:=xs.toArray,argTypes:=ats },ty,pos,af,none⟩).run P w = .ok (.round L fn tmps assign body) w:=hr
 rw [hr',Oper.uponIn_round]
 refine ⟨fun hx=>(by cases hx),RoundIn.mono hy2 ?_⟩
 rintro e W' ⟨b,rfl,N,hp,hm⟩
 exact k b N _ _ hp ((hs.frame hX hm).put hd _)
def zSQ (rec:LoopState → Loop):Loop:={ rec .done with pending:=some .ret }
def zaq (rec:LoopState → Loop):Loop:={ rec .exhausted with pending:=some .ret }
theorem St.round2 {p p2:Nat} (hs:St n F w0 S M a w) (hd:Nat.blt p n = true) (hd2:Nat.blt p2 n = true) (v v2:Value) {W:World} {S':List Nat} {M':List HA} (hm:Mem W S' M' W):St n ((p2,v2) :: (p,v) :: F) W S' M' { tmps:=(a.tmps.setIfInBounds p v).setIfInBounds p2 v2,defers:=[] } W :=
 ⟨((hs.put hd v).put hd2 v2).size,rfl,((hs.put hd v).put hd2 v2).agr,hm⟩
theorem zRE {L D fn p p2 : Nat} {assign body : Code} {rec : LoopState → Loop} {ps : Array Tmp} {v v2 : Value} {W : World} {S' : List Nat} {Mr : List HA} {post postJ : List HA → Prop} (hs : St n F w0 S M a w) (hrec : Rec rec fn a.tmps ps assign body D) (hps : ps = #[p, p2]) (hd : Nat.blt p n = true) (hd2 : Nat.blt p2 n = true)
   (hM:Mem W S' (obj L (.loop (rec .ready)) :: Mr) W)
   (walk:∀ a1 w1,St n ((p2,v2) :: (p,v) :: F) W S' (obj L (.loop (rec .ready)) :: Mr) a1 w1 → assign.wpIn (Fw (some L)) 0 P (Exit.then (fun a2 w2=>∃ F2 M2,St n F2 W S' (obj L (.loop (rec .ready)) :: M2) a2 w2 ∧
     ∀ w3,St n F2 W S' (obj L (.loop (rec .busy)) :: M2) a2 w3 → body.wpIn (Fw (some L)) 0 P (fun e _ w4=>(e = .normal ∧ ∃ N,post N ∧ Mem W S' (obj L (.loop (rec .busy)) :: N) w4) ∨ (e = .ret ∧ ∃ N,postJ N ∧ Mem W S' (obj L (.loop (rec .busy)) :: N) w4)) a2 w3) (fun _ _ _=>False)) a1 w1) :
   YieldAt Fence.wide 0 P L #[v,v2] W fun e W'=>(e = .returned (.bool true) ∧ ∃ N,post N ∧ Mem W S' (obj L (.loop (rec .ready)) :: N) W') ∨ (e = .returned (.bool false) ∧ ∃ N,postJ N ∧ Mem W S' (obj L (.loop (zSQ rec)) :: N) W'):=by
 subst hps
 have hL:W.heap[L]? = some (.loop (rec .ready)):=hM.all _ (List.mem_cons_self)
 have hy:=run_yield (P:=P) (args:=#[v,v2]) hL (by rw [hrec];rfl)
 rw [hrec] at hy
 have e1:(((#[p,p2]:Array Tmp).zip #[v,v2]).foldl (fun tmps (t,a)=>tmps.setIfInBounds t a) a.tmps) = (a.tmps.setIfInBounds p v).setIfInBounds p2 v2:=by simp
 dsimp only at hy
 rw [e1] at hy
 refine ⟨_,_,_,_,hy,roundIn_of_wpIn trivial ?_⟩
 refine wpIn_mono (walk _ _ (hs.round2 hd hd2 v v2 hM)) ?_
 intro e a2 w2 he
 cases e with
 | normal =>
   obtain ⟨F2,M2,hst,hb⟩:=he
   have hL2:w2.heap[L]? = some (.loop (rec .ready)):=hst.mem.all _ (List.mem_cons_self)
   have hbr:=run_beginRound (P:=P) hL2 (by rw [hrec])
   have ex:({ rec .ready with state:=.busy }:Loop) = rec .busy:=by rw [hrec,hrec]
   rw [ex] at hbr
   refine ⟨_,hbr,wpIn_mono (hb _ (hst.frame (.c .z .n) (zDL hL2))) ?_⟩
   rintro e a4 w4 (⟨rfl,N,hp,hm⟩ | ⟨rfl,N,hp,hm⟩)
   · have hL4:w4.heap[L]? = some (.loop (rec .busy)):=hm.all _ (List.mem_cons_self)
     have her:=run_endRound (P:=P) none hL4
     have ey:({ rec .busy with state:=if (none:Option Code).isNone = true then .ready else .done,pending:=none }:Loop) = rec .ready:=by rw [hrec,hrec];rfl
     rw [ey] at her
     exact ⟨_,_,her,.inl ⟨rfl,N,hp,hm.frame (.c .z .n) (zDL hL4)⟩⟩
   · have hL4:w4.heap[L]? = some (.loop (rec .busy)):=hm.all _ (List.mem_cons_self)
     have her:=run_endRound (P:=P) (some .ret) hL4
     have ey:({ rec .busy with state:=if (some Code.ret:Option Code).isNone = true then .ready else .done,pending:=some .ret }:Loop) = zSQ rec:=by rw [zSQ,hrec,hrec];rfl
     rw [ey] at her
     exact ⟨_,_,her,.inr ⟨rfl,N,hp,hm.frame (.c .z .n) (zDL hL4)⟩⟩
 | exit id=>exact he.elim
 | goto t=>exact he.elim
 | ret=>exact he.elim
 | panic ch=>exact he.elim
 | outgrown=>exact he.elim
theorem zKG {m gf : Nat} {g : Operand} {ps : Array Tmp} {assign body : Code} {lb : List Value} (hs : St n F w0 S M a w) (hg : evo F g = some (.func (.func gf) #[] lb.toArray)) (eg : ∀ args w, (callFunc gf args).run P w = .ok (.enter gf args) w)
   (h:∀ fn D L W rec,Rec rec fn a.tmps ps assign body D → Mem w0 S (obj L (.loop (rec .ready)) :: obj D (.deferred (some [])) :: M) W →
     Calls P gf (.func (.yield L) #[] #[] :: lb).toArray W fun e W'=>(∃ v,e = .returned v) ∧ ((∃ M2,Mem w0 S (obj L (.loop (rec .ready)) :: obj D (.deferred (some [])) :: M2) W' ∧
       ∀ W'',Mem w0 S (obj L (.loop (rec .exhausted)) :: obj D (.deferred (some [])) :: M2) W'' → Q .normal { a with defers:={ target:=.collected D,args:=#[] } :: a.defers } W'') ∨
       (∃ M2,Mem w0 S (obj L (.loop (zSQ rec)) :: obj D (.deferred (some [])) :: M2) W' ∧
       ∀ W'',Mem w0 S (obj L (.loop (zaq rec)) :: obj D (.deferred (some [])) :: M2) W'' → Q .ret { a with defers:={ target:=.collected D,args:=#[] } :: a.defers } W''))) :
   (Code.rangeFunc g ps assign body).wpIn (Fw none) m P Q a w:=by
 refine wpIn_rangeFunc fun fn _=>?_
 have h1:=hs.mem.frame (zCy.n (M:=M)) (zEu w (.deferred (some [])))
 have h2:=h1.frame (zCy.n (M:=[obj w.heap.size (.deferred (some []))] ++ M)) (zEu (w.alloc (.deferred (some []))) (.loop { state:=.ready,pending:=none,fn,tmps:=a.tmps,params:=ps,assign,body,defers:=w.heap.size }))
 rw [World.size_alloc] at h2
 have he:=run_enterLoop_outer (P:=P) (w:=w) fn a.tmps ps assign body
 generalize (w.alloc (.deferred (some []))).alloc (.loop { state:=.ready,pending:=none,fn:=fn,tmps:=a.tmps,params:=ps,assign:=assign,body:=body,defers:=w.heap.size }) = W1 at h2 he
 obtain ⟨rec,hrec⟩ : ∃ rec:LoopState → Loop,Rec rec fn a.tmps ps assign body w.heap.size:=⟨fun s=>{ state:=s,pending:=none,fn,tmps:=a.tmps,params:=ps,assign,body,defers:=w.heap.size },fun _=>rfl⟩
 rw [← hrec .ready] at h2
 have hc:=h fn w.heap.size (w.heap.size + 1) _ rec hrec h2
 refine ⟨w.heap.size + 1,[{ target:=.collected w.heap.size,args:=#[] }],W1,{ target:=.fn (.func gf) lb.toArray,args:=#[.func (.yield (w.heap.size + 1)) #[] #[]] },W1,gf,(.func (.yield (w.heap.size + 1)) #[] #[] :: lb).toArray,W1,he,?_,fun _ _=>trivial,?_,fun hx=>(by cases hx),?_⟩
 · have hge:=hs.ev hg
   have hce:a.eval (.const (.func (.yield (w.heap.size + 1)) #[] #[])) = .func (.yield (w.heap.size + 1)) #[] #[]:=rfl
   simp [resolve,Deferred.ofValue,hge,hce]
 · simp [invoke,eg]
 · refine CallsIn.mono (callsIn_wide.2 hc) ?_
   rintro e W' ⟨⟨v,rfl⟩,⟨M2,hm,hq⟩ | ⟨M2,hm,hq⟩⟩
   · have hl:=hm.all _ (List.mem_cons_self)
     have hr:=run_endLoop (P:=P) hl (by rw [hrec];simp)
     have hx:({ rec .ready with state:=.exhausted }:Loop) = rec .exhausted:=by rw [hrec,hrec]
     rw [hx] at hr
     have hp:(rec .ready).pending = none:=by rw [hrec]
     rw [hp] at hr
     exact ⟨none,_,hr,hq _ (hm.frame (.c .z .n) (zDL hl))⟩
   · have hl:=hm.all _ (List.mem_cons_self)
     have hr:=run_endLoop (P:=P) hl (by rw [zSQ,hrec];simp)
     have hx:({ zSQ rec with state:=.exhausted }:Loop) = zaq rec:=by rw [zSQ,zaq,hrec,hrec]
     rw [hx] at hr
     have hp:(zSQ rec).pending = some .ret:=rfl
     rw [hp] at hr
     exact ⟨some .ret,_,hr,wpIn_ret (hq _ (hm.frame (.c .z .n) (zDL hl)))⟩
theorem zP6 {m:Nat} {F':Fence} {c:Operand} {x y:Code} {t:Bool} (hs:St n F w0 S M a w) (hc:evo F c = some (.bool t)) (ht:t = true → x.wpIn F' m P Q a w) (hf:t = false → y.wpIn F' m P Q a w):(Code.cond c x y).wpIn F' m P Q a w:=by
 cases t with
 | true=>exact wpIn_cond_true (hs.ev hc) (ht rfl)
 | false=>exact wpIn_cond_false (hs.ev hc) (hf rfl)
theorem zU7 {fn:Func} {R:Ending → World → Prop} {D:Nat} {tmps:Array Value} {v:Value} (hr:(results fn tmps).run P (w.putObj D (.deferred none)) = .ok v (w.putObj D (.deferred none))) (hD:w.heap[D]? = some (.deferred (some []))) (hR:R (.returned v) (w.putObj D (.deferred none))):bodyPostM (Fw none) 1 P fn R .ret { tmps:=tmps,defers:=[{ target:=.collected D,args:=#[] }] } w:=by
 refine ⟨by simp,.inl ⟨_,_,rfl,run_takeDeferred hD,?_⟩⟩
 exact ⟨_,hr,hR⟩
theorem za0 {r:Option Nat} {m:Nat} {md:Region.Mode} (hQ:∀ a w,¬ Q .outgrown a w) (hd:∀ (i:Nat) (o:Oper),ops[i]? = some o → ∀ c,o.op ≠ .defer c):∀ (fuel:Nat) (listed:Array Bool) (a:Act) (w:World),wpAny P md ops Q fuel listed a w → wpAnyIn (Fw r) m P md ops Q fuel listed a w:=by
 intro fuel
 induction fuel with
 | zero=>intro listed a w h;exact h
 | succ fuel ih =>
   intro listed a w h
   refine ⟨fun hr=>h.1 hr,fun i hi=>?_⟩
   have h:=h.2 i hi
   unfold wpOp at h
   unfold wpOpIn
   have ih':=fun a w=>ih (listed.setIfInBounds i true) a w
   cases ho:ops[i]? with
   | none=>rw [ho] at h;exact ih _ _ _ h
   | some o =>
     rw [ho] at h
     dsimp only at h ⊢
     by_cases hw:Region.wanted o (yielded ops a.tmps) = true
     · rw [if_pos hw] at h ⊢
       rcases h with h | ⟨_,a0,w0,h0⟩
       · refine ⟨fun _ _=>trivial,?_⟩
         rw [Oper.semAt_eq _ _ _ (hd i o ho)]
         unfold Oper.wp at h
         generalize (execOp a.eval o).run P w = x at h
         cases x with
         | ok nx w' =>
           cases nx with
           | value v=>exact ih' _ _ h
           | skip=>exact ih' _ _ h
           | defer dd=>exact ih' _ _ h
           | enter f args =>
             have h:Calls P f args w' _:=h
             refine ⟨fun hx=>(by cases hx),?_⟩
             refine CallsIn.mono (callsIn_wide.2 h) ?_
             intro e w'' he
             cases e with
             | returned v=>exact ih' _ _ he
             | panicked ch=>exact he
             | outgrown=>obtain ⟨a1,w1,h1⟩:=he;exact absurd h1 (hQ a1 w1)
           | row row args =>
             have h:Rows P row args w' _:=h
             refine ⟨fun hx=>(by cases hx),fun c cs _=>?_⟩
             obtain ⟨v,w'',hv,hs⟩:=h c cs
             exact ⟨v,w'',ih' _ _ hv,stepsIn_wide.2 hs⟩
           | _=>exact h.elim
         | halt hl w' =>
           cases hl with
           | panic v=>exact h
           | _=>exact h.elim
       · exact absurd h0 (hQ a0 w0)
     · rw [if_neg hw] at h ⊢
       exact ⟨fun _ _=>trivial,ih' _ _ h⟩
theorem zPh {r:Option Nat} {m id:Nat} {l:List Oper} (hm:P.follows .mixedOrders = true) (hQ:∀ a w,¬ Q .outgrown a w) (hd:zN7 l) (h:zab P Q l.toArray a w):(Code.region id l.toArray true).wpIn (Fw r) m P Q a w :=
 wpIn_region_any hm (za0 hQ (fun i o ho=>hd o (List.mem_of_getElem? (by simpa using ho))) _ _ _ _ h)
theorem zQ9 {r : Option Nat} {m id : Nat} {l : List Oper} {Mp M1 : List HA} {B Xp : BL} (hQ : ∀ a w, ¬ Q .outgrown a w) (hnd : zN7 l) (cs : List DC) (live : List Nat) (hs : St n F w0 S M a w) (tx : zDg M Xp Mp) (tk : zDg Mp B M1) (hb : zLC P F l cs = true)
   (h:zEK P n F w0 S Mp l B Xp cs 0 l cs [] [] [] fun E R=>zYb R [] fun Ds=>(Ds.flatMap (·.X) = bls Xp ∧ zLZ l Ds = true ∧ (∀ vs,Nsm vs 0 Ds = Ds.map (·.N vs)) ∧ Ds.map (·.X) = cs.map (·.X Xp) ∧ Ds.map (·.use) = cs.map (·.use) ∧ zDH P l n F w0 S Mp Ds E 0 l cs) ∧
     pvF l live E F fun G=>zGW (Mp ++ zSL (Ds.flatMap (·.use)) (fun _=>undef) 0 Ds) fun M'=>(∀ vs,Mp ++ zSL (Ds.flatMap (·.use)) vs 0 Ds = M') ∧ ∀ a w,St n G w0 S M' a w → Q .normal a w):(Code.region id l.toArray true).wpIn (Fw r) m P Q a w:=by
 simp only [zLC,Bool.and_eq_true] at hb
 obtain ⟨hm,hb⟩:=hb
 obtain ⟨E',R',h1,_,h3,h4⟩:=zFv tk l 0 cs [] [] [] _ h rfl rfl hb.2
 rw [List.append_nil] at h1 h4
 have h1:=zHt h1
 rw [List.append_nil] at h1
 obtain ⟨⟨hX,hu,hN,hx1,hx2,hT⟩,hfin⟩:=h1
 simp only [zLZ,Bool.and_eq_true] at hu
 obtain ⟨hE,htr⟩:=h4 _ rfl ⟨(fun k d v hk=>by cases hk),fun k B hk=>by cases hk⟩
 replace htr:=htr (zNR hN) (zM2 hx1 hx2) hT
 obtain ⟨GF,hg1,hg2⟩:=zIg (vs:=fun _=>undef) hfin
 obtain ⟨he,hg1⟩:=zBR.1 hg1
 have hp:M.Perm ((R'.reverse.flatMap (·.X)) ++ Mp):=by rw [hX,zEk];exact tx.perm
 refine zPh hm hQ hnd (zHl (Q:=Q) hm (hs.permM hp) rfl (zEf _ _) hb.1 hu.1 hu.2 htr fun a w vs hs hf=>?_)
 rw [zHn (hN vs),he vs] at hs
 refine hg1 a w (hg2 (fun k d v hk=>?_) hs)
 obtain ⟨e1,e2,e3⟩:=hE.ok k d v hk
 obtain ⟨f1,f2⟩:=hf k e1
 rw [← e3 vs f2]
 exact f1.at_ e2
theorem zJH {fn : Func} {tmps : Array Value} {t1 t2 t3 : Nat} {r1 r2 r3 c1 c2 c3 : TypeId} {g1 g2 g3 : Nat} {v1 v2 v3 : Value} (hr : fn.results = #[.cell t1 r1, .cell t2 r2, .cell t3 r3]) (h1 : tmps[t1]? = some (pt g1 0)) (h2 : tmps[t2]? = some (pt g2 0)) (h3 : tmps[t3]? = some (pt g3 0)) (b1 : (blk g1 [v1] c1).p w) (b2 : (blk g2 [v2] c2).p w) (b3 : (blk g3 [v3] c3).p w)
   (a1:∀ w,(isAgg r1).run P w = .ok false w) (a2:∀ w,(isAgg r2).run P w = .ok false w) (a3:∀ w,(isAgg r3).run P w = .ok false w):(results fn tmps).run P w = .ok (.tuple #[v1,v2,v3]) w:=by
 have e1:=(zBB (i:=0) b1).trans (Nth.get .z)
 have e2:=(zBB (i:=0) b2).trans (Nth.get .z)
 have e3:=(zBB (i:=0) b3).trans (Nth.get .z)
 simp [results,hr,Array.getD_eq_getD_getElem?,h1,h2,h3,asAddr,loadVar,a1,a2,a3,run_load,e1,e2,e3]
theorem zaf {fn : Func} {post : Value → List HA → Prop} {t1 t2 t3 : Nat} {r1 r2 r3 c1 c2 c3 : TypeId} {g1 g2 g3 : Nat} {v1 v2 v3 : Value} {M1 M2 M3 : List HA} (hs : St n F w0 S M a w) (hr : fn.results = #[.cell t1 r1, .cell t2 r2, .cell t3 r3]) (h1 : lk F t1 = some (pt g1 0)) (h2 : lk F t2 = some (pt g2 0)) (h3 : lk F t3 = some (pt g3 0)) (b1 : Del M (blk g1 [v1] c1) M1) (b2 : Del M (blk g2 [v2] c2) M2) (b3 : Del M (blk g3 [v3] c3) M3)
   (a1:∀ w,(isAgg r1).run P w = .ok false w) (a2:∀ w,(isAgg r2).run P w = .ok false w) (a3:∀ w,(isAgg r3).run P w = .ok false w) {X N:List HA} (hD:zCy M X N) (hp:post (.tuple #[v1,v2,v3]) N):bodyPost P fn (Ret w0 S post) .ret a w :=
 bodyPost_ret (zJH hr (hs.agr _ _ h1) (hs.agr _ _ h2) (hs.agr _ _ h3) (hs.mem.del b1) (hs.mem.del b2) (hs.mem.del b3) a1 a2 a3) hs.dfr ⟨_,N,rfl,hp,hs.mem.drop hD⟩
theorem zNI {a:Act} (d:Deferred) (h:a.defers = []):({ a with defers:=d :: a.defers }:Act) = { tmps:=a.tmps,defers:=[d] }:=by rw [h]
/-! ### Deferred calls -/
theorem zWN {f : FuncId} {fn : Func} {c : Code} {args : List Value} {F0 : List (Nat × Value)} {R : Ending → World → Prop} {u : FrameMode} (hf : P.funcs[f]? = some fn) (hb : fn.body = some c) (hn : fn.ntmps = n) (hle : Nat.ble args.length n = true) (hini : Ini 0 args F0) (hM : Mem w S M w)
   (h:∀ a w',St n F0 w S M a w' → G P (bodyPost P fn R) (.code c []) a w'):CallsD P f args.toArray u w fun e u' w'=>u' = u ∧ R e w':=by
 refine callsD_of_wp hf hb (h _ _ ?_)
 have hle':args.length ≤ n:=by simpa using hle
 subst hn
 refine ⟨by simp;omega,rfl,fun t v hv=>?_,hM⟩
 obtain ⟨_,h2⟩:=hini.get t v hv
 simp only [Nat.sub_zero] at h2
 have hlt:t < args.length:=by
   rcases Nat.lt_or_ge t args.length with h | h
   · exact h
   · simp [List.getElem?_eq_none h] at h2
 rw [Array.getElem?_append_left (by simpa using hlt)]
 simpa using h2
theorem zXZ {f : FuncId} {fn : Func} {c : Code} {args : List Value} {F0 : List (Nat × Value)} {R : Ending → World → Prop} (hf : P.funcs[f]? = some fn) (hb : fn.body = some c) (hn : fn.ntmps = n) (hle : Nat.ble args.length n = true) (hini : Ini 0 args F0) (hM : Mem w S M w)
   (h:∀ a w',St n F0 w S M a w' → G P (bodyPostD P fn R) (.code c []) a w'):Calls P f args.toArray w R:=by
 refine calls_of_wp_defers hf hb (h _ _ ?_)
 have hle':args.length ≤ n:=by simpa using hle
 subst hn
 refine ⟨by simp;omega,rfl,fun t v hv=>?_,hM⟩
 obtain ⟨_,h2⟩:=hini.get t v hv
 simp only [Nat.sub_zero] at h2
 have hlt:t < args.length:=by
   rcases Nat.lt_or_ge t args.length with h | h
   · exact h
   · simp [List.getElem?_eq_none h] at h2
 rw [Array.getElem?_append_left (by simpa using hlt)]
 simpa using h2
def wDf (D:List Deferred) (a:Act):Act:={ a with defers:=a.defers ++ D }
def dfQ (D:List Deferred) (Q:Exit → Act → World → Prop):Exit → Act → World → Prop:=fun e a w=>Q e (wDf D a) w
theorem zRk {D:List Deferred} (d:Option Nat) (v:Value):wDf D (a.put d v) = (wDf D a).put d v:=by cases d <;> rfl
theorem zNM {D:List Deferred} (hQ:∀ a w,¬ Q .outgrown a w):∀ (l:List Oper) (a:Act) (w:World),wpList P ops (dfQ D Q) l a w → wpList P ops Q l (wDf D a) w:=by
 intro l
 induction l with
 | nil=>intro a w h;exact h
 | cons o l ih =>
   intro a w h
   have ih':∀ (d:Option Nat) (v:Value) (a:Act) (w:World),wpList P ops (dfQ D Q) l (a.put d v) w → wpList P ops Q l ((wDf D a).put d v) w:=fun d v a w h=>by rw [← zRk];exact ih _ _ h
   simp only [wpList] at h ⊢
   by_cases hw:Region.wanted o (yielded ops a.tmps) = true
   · rw [if_pos hw] at h
     rw [if_pos (show Region.wanted o (yielded ops (wDf D a).tmps) = true from hw)]
     rcases h with h | ⟨_,a0,w0,h0⟩
     · left
       unfold Oper.wp at h ⊢
       have ev:(wDf D a).eval = a.eval:=rfl
       rw [ev]
       generalize (execOp a.eval o).run P w = x at h
       cases x with
       | ok nx w' =>
         cases nx with
         | value v=>exact ih' _ _ _ _ h
         | skip=>exact ih' _ _ _ _ h
         | defer dd=>exact ih' _ _ { a with defers:=dd :: a.defers } _ h
         | enter f args =>
           have h:Calls P f args w' _:=h
           refine Calls.mono h ?_
           intro e w'' he
           cases e with
           | returned v=>exact ih' _ _ _ _ he
           | panicked ch=>exact he
           | outgrown=>obtain ⟨a1,w1,h1⟩:=he;exact absurd h1 (hQ _ _)
         | row row args =>
           have h:Rows P row args w' _:=h
           refine fun c cs=>?_
           obtain ⟨v,w'',hv,hs⟩:=h c cs
           exact ⟨v,w'',ih' _ _ _ _ hv,hs⟩
         | _=>exact h.elim
       | halt hl w' =>
         cases hl with
         | panic v=>exact h
         | _=>exact h.elim
     · exact absurd h0 (hQ _ _)
   · rw [if_neg hw] at h
     rw [if_neg (show ¬ Region.wanted o (yielded ops (wDf D a).tmps) = true from hw)]
     exact ih' _ _ _ _ h
theorem zUo {x:Operand} {f:FuncId} {cap:Array Value} (hs:St n F w0 S M a w) (hx:evo F x = some (.func (.func f) #[] cap)) (k:wpList P ops Q rest (wDf [{ target:=.fn (.func f) cap,args:=#[] }] a) w):wpList P ops Q (⟨none,.defer { callee:=.value x,args:=#[],argTypes:=#[] },ty,pos,af,none⟩ :: rest) a w:=by
 simp only [wpList]
 rw [if_pos (by simp [Region.wanted])]
 left
 have hr:(execOp a.eval (⟨none,.defer { callee:=.value x,args:=#[],argTypes:=#[] },ty,pos,af,none⟩ : Oper)).run P w = .ok (.defer { target:=.fn (.func f) cap,args:=#[] }) w:=by
   simp [execOp,resolve,Deferred.ofValue,hs.ev hx]
 unfold Oper.wp
 rw [hr,Oper.upon_defer]
 have e:({ a with defers:={ target:=.fn (.func f) cap,args:=#[] } :: a.defers }:Act) = wDf [{ target:=.fn (.func f) cap,args:=#[] }] a:=by unfold wDf;rw [hs.dfr];rfl
 rw [e]
 exact k
theorem zRS {fn : Func} {R : Ending → World → Prop} {fv : Fn} {cap : Array Value} {f : FuncId} {args : Array Value} {t : Nat} {v : Value} (hs : St n F w0 S M a w) (hi : (invoke (.fn fv cap) #[]).run P w = .ok (.enter f args) w) (hr : fn.results = #[.tmp t]) (hv : lk F t = some v)
   (h:CallsD P f args .returning w fun e u' w'=>u' = .returning ∧ (∃ u,e = .returned u) ∧ R (.returned v) w'):bodyPostD P fn R .ret (wDf [{ target:=.fn fv cap,args:=#[] }] a) w:=by
 show Leaves P fn a.tmps R (a.defers ++ _) .returning w
 rw [hs.dfr]
 refine leaves_cons (by simp) hi (h.mono ?_)
 rintro e u' w' ⟨rfl,⟨u,rfl⟩,hR⟩
 have hg:=hs.agr t v hv
 exact ⟨v,by rw [show v = a.tmps.getD t undef by simp [Array.getD_eq_getD_getElem?,hg]];exact results_tmp hr _ _ _,hR⟩
theorem zY1 {f:FuncId} {fn:Func} {c:Code} {args:List Value} {F0:List (Nat × Value)} {R:Ending → World → Prop} (hf:P.funcs[f]? = some fn) (hb:fn.body = some c) (hn:fn.ntmps = n) (hle:Nat.ble args.length n = true) (hini:Ini 0 args F0) (hM:Mem w S M w)
 (h:∀ a w',St n F0 w S M a w' → c.wp P (bodyPostD P fn R) a w'):Calls P f args.toArray w R:=zXZ hf hb hn hle hini hM h
theorem zYG {D:List Deferred} {md:Region.Mode} (hQ:∀ a w,¬ Q .outgrown a w):∀ (fuel:Nat) (listed:Array Bool) (a:Act) (w:World),wpAny P md ops (dfQ D Q) fuel listed a w → wpAny P md ops Q fuel listed (wDf D a) w:=by
 intro fuel
 induction fuel with
 | zero=>intro listed a w h;exact h
 | succ fuel ih =>
   intro listed a w h
   refine ⟨fun hr=>h.1 hr,fun i hi=>?_⟩
   have h:=h.2 i hi
   unfold wpOp at h ⊢
   have ih':∀ (d:Option Nat) (v:Value) (a:Act) (w:World),wpAny P md ops (dfQ D Q) fuel (listed.setIfInBounds i true) (a.put d v) w → wpAny P md ops Q fuel (listed.setIfInBounds i true) ((wDf D a).put d v) w:=fun d v a w h=>by rw [← zRk];exact ih _ _ _ h
   cases ho:ops[i]? with
   | none=>rw [ho] at h;exact ih _ _ _ h
   | some o =>
     rw [ho] at h
     dsimp only at h ⊢
     by_cases hw:Region.wanted o (yielded ops a.tmps) = true
     · rw [if_pos hw] at h
       rw [if_pos (show Region.wanted o (yielded ops (wDf D a).tmps) = true from hw)]
       rcases h with h | ⟨_,a0,w0,h0⟩
       · left
         unfold Oper.wp at h ⊢
         have ev:(wDf D a).eval = a.eval:=rfl
         rw [ev]
         generalize (execOp a.eval o).run P w = x at h
         cases x with
         | ok nx w' =>
           cases nx with
           | value v=>exact ih' _ _ _ _ h
           | skip=>exact ih' _ _ _ _ h
           | defer dd=>exact ih' _ _ { a with defers:=dd :: a.defers } _ h
           | enter f args =>
             have h:Calls P f args w' _:=h
             refine Calls.mono h ?_
             intro e w'' he
             cases e with
             | returned v=>exact ih' _ _ _ _ he
             | panicked ch=>exact he
             | outgrown=>obtain ⟨a1,w1,h1⟩:=he;exact absurd h1 (hQ _ _)
           | row row args =>
             have h:Rows P row args w' _:=h
             refine fun c cs=>?_
             obtain ⟨v,w'',hv,hs⟩:=h c cs
             exact ⟨v,w'',ih' _ _ _ _ hv,hs⟩
           | _=>exact h.elim
         | halt hl w' =>
           cases hl with
           | panic v=>exact h
           | _=>exact h.elim
       · exact absurd h0 (hQ _ _)
     · rw [if_neg hw] at h
       rw [if_neg (show ¬ Region.wanted o (yielded ops (wDf D a).tmps) = true from hw)]
       exact ih' _ _ _ _ h
theorem zPV {D : List Deferred} {id : Nat} {l : List Oper} {Mp M1 : List HA} {B Xp : BL} (hQ : ∀ a w, ¬ Q .outgrown a w) (cs : List DC) (live : List Nat) (hs : St n F w0 S M a w) (tx : zDg M Xp Mp) (tk : zDg Mp B M1) (hb : zLC P F l cs = true)
   (h:zEK P n F w0 S Mp l B Xp cs 0 l cs [] [] [] fun E R=>zYb R [] fun Ds=>(Ds.flatMap (·.X) = bls Xp ∧ zLZ l Ds = true ∧ (∀ vs,Nsm vs 0 Ds = Ds.map (·.N vs)) ∧ Ds.map (·.X) = cs.map (·.X Xp) ∧ Ds.map (·.use) = cs.map (·.use) ∧ zDH P l n F w0 S Mp Ds E 0 l cs) ∧
     pvF l live E F fun G=>zGW (Mp ++ zSL (Ds.flatMap (·.use)) (fun _=>undef) 0 Ds) fun M'=>(∀ vs,Mp ++ zSL (Ds.flatMap (·.use)) vs 0 Ds = M') ∧ ∀ a w,St n G w0 S M' a w → Q .normal (wDf D a) w):(Code.region id l.toArray true).wp P Q (wDf D a) w:=by
 simp only [zLC,Bool.and_eq_true] at hb
 obtain ⟨hm,hb⟩:=hb
 obtain ⟨E',R',h1,_,h3,h4⟩:=zFv tk l 0 cs [] [] [] _ h rfl rfl hb.2
 rw [List.append_nil] at h1 h4
 have h1:=zHt h1
 rw [List.append_nil] at h1
 obtain ⟨⟨hX,hu,hN,hx1,hx2,hT⟩,hfin⟩:=h1
 simp only [zLZ,Bool.and_eq_true] at hu
 obtain ⟨hE,htr⟩:=h4 _ rfl ⟨(fun k d v hk=>by cases hk),fun k B hk=>by cases hk⟩
 replace htr:=htr (zNR hN) (zM2 hx1 hx2) hT
 obtain ⟨GF,hg1,hg2⟩:=zIg (vs:=fun _=>undef) hfin
 obtain ⟨he,hg1⟩:=zBR.1 hg1
 have hp:M.Perm ((R'.reverse.flatMap (·.X)) ++ Mp):=by rw [hX,zEk];exact tx.perm
 refine wp_region_any hm (zYG hQ _ _ _ _ (zHl (Q:=dfQ D Q) hm (hs.permM hp) rfl (zEf _ _) hb.1 hu.1 hu.2 htr fun a w vs hs hf=>?_))
 rw [zHn (hN vs),he vs] at hs
 refine hg1 a w (hg2 (fun k d v hk=>?_) hs)
 obtain ⟨e1,e2,e3⟩:=hE.ok k d v hk
 obtain ⟨f1,f2⟩:=hf k e1
 rw [← e3 vs f2]
 exact f1.at_ e2
/-! ### Values of interfaces -/
theorem zVd {x:Operand} {v:Value} {t:TypeId} (hs:St n F w0 S M a w) (hx:evo F x = some v) (hm:∀ w,(Instr.makeInterface t v).run P w = .ok (.iface t v) w) (hd:Nat.blt d n = true) (k:∀ a w,St n ((d,.iface t v) :: F) w0 S M a w → wpList P ops Q rest a w):wpList P ops Q (⟨some d,.makeInterface t x,ty,pos,af,none⟩ :: rest) a w :=
 zN hs (by simp [execOp,hs.ev hx,hm]) hd k
theorem zKe {x : Operand} {t : TypeId} {u r : Value} {name : String} {f : FuncId} {xs : List Operand} {ats : Array TypeId} {vs : List Value} {v : Value} (hs : St n F w0 S M a w) (hx : evo F x = some (.iface t u)) (hv : Evs F xs vs) (hm : ∀ w, (method (P.types.size + Made.depth) t u name).run P w = .ok (f, r) w) (hcall : ∀ args w, (callFunc f args).run P w = .ok (.enter f args) w)
   (hc:Calls P f (r :: vs).toArray w (zAj w v)) (hd:Nat.blt d n = true)
   (k:∀ a w,St n ((d,v) :: F) w0 S M a w → wpList P ops Q rest a w):wpList P ops Q (⟨some d,.call { callee:=.invoke x name,args:=xs.toArray,argTypes:=ats },ty,pos,af,none⟩ :: rest) a w:=by
 have hr:(execOp a.eval (⟨some d,.call { callee:=.invoke x name,args:=xs.toArray,argTypes:=ats },ty,pos,af,none⟩ : Oper)).run P w = .ok (.enter f (r :: vs).toArray) w:=by
   have he:(xs.toArray.map a.eval) = vs.toArray:=by rw [← hs.evs hv];simp
   simp [execOp,resolve,invoke,callMethod,hs.ev hx,he,hm,hcall]
 refine zHK rfl hr (post:=fun v' N=>v' = v ∧ N = []) (X:=[]) hc ?_
 rintro v' N w' ⟨hv',rfl⟩ hm'
 rw [hv']
 exact k _ _ ((hs.frame .n hm').put hd v)
end Go.Sx
/- Plain law of the statements about one record, and about one entity less. -/
set_option linter.unusedVariables false
set_option linter.unusedSimpArgs false
namespace Go.Sx
theorem zKt {α:Type} [Inhabited α] {g:α → List Value} {size:Nat} (hg:∀ a,(g a).length = size) (l:List α) (j o sz:Nat) (h:j < l.length ∧ o + sz ≤ size):((l.flatMap g).drop (j * size + o)).take sz = ((g (l.getD j default)).drop o).take sz:=by
 rw [← zAT hg l j h.1,List.drop_take,List.drop_drop,List.take_take,Nat.min_eq_left (by omega)]
/-! ### One record -/
/-! ### One entity less -/
end Go.Sx
/- Walks of varint: what each function does, over the program of this seat. Printed by a program of this session. -/
namespace Go.Proofs.YtemnjodhidlfpaaGreat
open Tryz
open Go Go.Sx Go.RowKit
set_option linter.unusedVariables false
set_option linter.unusedSimpArgs false
set_option maxRecDepth 4000
set_option maxHeartbeats 1000000

theorem zNv (X:BitVec 64) (w0:World):Calls Tryz.prog 184 #[.int .u64 (X.toNat:Int)] w0 (zAj w0 (nI (zAo X.toNat))):=by
 have hx:=X.isLt
 refine zG (F0:=[(0,qI X)]) func184 rfl rfl rfl (.c .n) (Mem.nil _) ?_
 refine go 3 [] [4,2,0] .n ?_
 refine ifG rfl (fun c_1=>?_) (fun c_1=>?_)
 ·
  have l32:=zXj X 32 (by omega)
  have s32:=zDw X 32
  intro a w hs;simp only [Nat.reducePow] at s32
  revert a w hs
  refine go 1 [] [5] .n ?_
  intro a w hs;refine zAM (X:=X) (m:=32) hs rfl rfl rfl (by decide) rfl ?_
  refine goL 4 [] [8,2,0] .n ?_
  refine ifG rfl (fun c_2=>?_) (fun c_2=>?_)
  ·
   have l16:=zXj (X >>> 32) 16 (by omega)
   have s16:=zDw (X >>> 32) 16
   intro a w hs;simp only [Nat.reducePow] at s16
   revert a w hs
   refine go 1 [] [9,2] .n ?_
   intro a w hs;refine zAM (X:=X >>> 32) (m:=16) hs rfl rfl rfl (by decide) rfl ?_
   refine goL 6 [] [14,2,0] .n ⟨by decide,?_⟩
   refine ifG rfl (fun c_3=>?_) (fun c_3=>?_)
   ·
    have l8:=zXj ((X >>> 32) >>> 16) 8 (by omega)
    have s8:=zDw ((X >>> 32) >>> 16) 8
    intro a w hs;simp only [Nat.reducePow] at s8
    revert a w hs
    refine go 1 [] [15,2] .n ?_
    intro a w hs;refine zAM (X:=(X >>> 32) >>> 16) (m:=8) hs rfl rfl rfl (by decide) rfl ?_
    refine goL 6 [] [20,19] .n ⟨by decide,?_⟩
    intro a w hs;refine zBC (X:=((X >>> 32) >>> 16) >>> 8) hs rfl rfl underlying167 underlying5 rfl ?_
    intro a w hs;refine zGn (Y:=(((X >>> 32) >>> 16) >>> 8).setWidth 8) hs rfl rfl rfl underlying9 zDX rfl ?_
    intro a w hs;refine zBx hs rfl (bvr (BitVec.ofNat 8 (zAo ((((X >>> 32) >>> 16) >>> 8).setWidth 8).toNat))) underlying5 underlying3 rfl ?_
    refine goL 2 [] [2] .n ⟨(by omega),?_⟩
    have l9:=zU4 (((X >>> 32) >>> 16) >>> 8) (by omega)
    intro a w hs;exact fin hs rfl rfl ⟨congrArg (Value.int .i64) (by omega),rfl⟩
   refine go 2 [] [20,19] .n ?_
   intro a w hs;refine zBC (X:=(X >>> 32) >>> 16) hs rfl rfl underlying167 underlying5 rfl ?_
   intro a w hs;refine zGn (Y:=((X >>> 32) >>> 16).setWidth 8) hs rfl rfl rfl underlying9 zDX rfl ?_
   intro a w hs;refine zBx hs rfl (bvr (BitVec.ofNat 8 (zAo (((X >>> 32) >>> 16).setWidth 8).toNat))) underlying5 underlying3 rfl ?_
   refine goL 2 [] [2] .n ⟨(by omega),?_⟩
   have l9:=zU4 ((X >>> 32) >>> 16) (by omega)
   intro a w hs;exact fin hs rfl rfl ⟨congrArg (Value.int .i64) (by omega),rfl⟩
  refine go 2 [] [14,2,0] .n ?_
  refine ifG rfl (fun c_4=>?_) (fun c_4=>?_)
  ·
   have l8:=zXj (X >>> 32) 8 (by omega)
   have s8:=zDw (X >>> 32) 8
   intro a w hs;simp only [Nat.reducePow] at s8
   revert a w hs
   refine go 1 [] [15,2] .n ?_
   intro a w hs;refine zAM (X:=X >>> 32) (m:=8) hs rfl rfl rfl (by decide) rfl ?_
   refine goL 6 [] [20,19] .n ⟨by decide,?_⟩
   intro a w hs;refine zBC (X:=(X >>> 32) >>> 8) hs rfl rfl underlying167 underlying5 rfl ?_
   intro a w hs;refine zGn (Y:=((X >>> 32) >>> 8).setWidth 8) hs rfl rfl rfl underlying9 zDX rfl ?_
   intro a w hs;refine zBx hs rfl (bvr (BitVec.ofNat 8 (zAo (((X >>> 32) >>> 8).setWidth 8).toNat))) underlying5 underlying3 rfl ?_
   refine goL 2 [] [2] .n ⟨(by omega),?_⟩
   have l9:=zU4 ((X >>> 32) >>> 8) (by omega)
   intro a w hs;exact fin hs rfl rfl ⟨congrArg (Value.int .i64) (by omega),rfl⟩
  refine go 2 [] [20,19] .n ?_
  intro a w hs;refine zBC (X:=X >>> 32) hs rfl rfl underlying167 underlying5 rfl ?_
  intro a w hs;refine zGn (Y:=(X >>> 32).setWidth 8) hs rfl rfl rfl underlying9 zDX rfl ?_
  intro a w hs;refine zBx hs rfl (bvr (BitVec.ofNat 8 (zAo ((X >>> 32).setWidth 8).toNat))) underlying5 underlying3 rfl ?_
  refine goL 2 [] [2] .n ⟨(by omega),?_⟩
  have l9:=zU4 (X >>> 32) (by omega)
  intro a w hs;exact fin hs rfl rfl ⟨congrArg (Value.int .i64) (by omega),rfl⟩
 refine go 2 [] [8,2,0] .n ?_
 refine ifG rfl (fun c_5=>?_) (fun c_5=>?_)
 ·
  have l16:=zXj X 16 (by omega)
  have s16:=zDw X 16
  intro a w hs;simp only [Nat.reducePow] at s16
  revert a w hs
  refine go 1 [] [9,2] .n ?_
  intro a w hs;refine zAM (X:=X) (m:=16) hs rfl rfl rfl (by decide) rfl ?_
  refine goL 6 [] [14,2,0] .n ⟨by decide,?_⟩
  refine ifG rfl (fun c_6=>?_) (fun c_6=>?_)
  ·
   have l8:=zXj (X >>> 16) 8 (by omega)
   have s8:=zDw (X >>> 16) 8
   intro a w hs;simp only [Nat.reducePow] at s8
   revert a w hs
   refine go 1 [] [15,2] .n ?_
   intro a w hs;refine zAM (X:=X >>> 16) (m:=8) hs rfl rfl rfl (by decide) rfl ?_
   refine goL 6 [] [20,19] .n ⟨by decide,?_⟩
   intro a w hs;refine zBC (X:=(X >>> 16) >>> 8) hs rfl rfl underlying167 underlying5 rfl ?_
   intro a w hs;refine zGn (Y:=((X >>> 16) >>> 8).setWidth 8) hs rfl rfl rfl underlying9 zDX rfl ?_
   intro a w hs;refine zBx hs rfl (bvr (BitVec.ofNat 8 (zAo (((X >>> 16) >>> 8).setWidth 8).toNat))) underlying5 underlying3 rfl ?_
   refine goL 2 [] [2] .n ⟨(by omega),?_⟩
   have l9:=zU4 ((X >>> 16) >>> 8) (by omega)
   intro a w hs;exact fin hs rfl rfl ⟨congrArg (Value.int .i64) (by omega),rfl⟩
  refine go 2 [] [20,19] .n ?_
  intro a w hs;refine zBC (X:=X >>> 16) hs rfl rfl underlying167 underlying5 rfl ?_
  intro a w hs;refine zGn (Y:=(X >>> 16).setWidth 8) hs rfl rfl rfl underlying9 zDX rfl ?_
  intro a w hs;refine zBx hs rfl (bvr (BitVec.ofNat 8 (zAo ((X >>> 16).setWidth 8).toNat))) underlying5 underlying3 rfl ?_
  refine goL 2 [] [2] .n ⟨(by omega),?_⟩
  have l9:=zU4 (X >>> 16) (by omega)
  intro a w hs;exact fin hs rfl rfl ⟨congrArg (Value.int .i64) (by omega),rfl⟩
 refine go 2 [] [14,2,0] .n ?_
 refine ifG rfl (fun c_7=>?_) (fun c_7=>?_)
 ·
  have l8:=zXj X 8 (by omega)
  have s8:=zDw X 8
  intro a w hs;simp only [Nat.reducePow] at s8
  revert a w hs
  refine go 1 [] [15,2] .n ?_
  intro a w hs;refine zAM (X:=X) (m:=8) hs rfl rfl rfl (by decide) rfl ?_
  refine goL 6 [] [20,19] .n ⟨by decide,?_⟩
  intro a w hs;refine zBC (X:=X >>> 8) hs rfl rfl underlying167 underlying5 rfl ?_
  intro a w hs;refine zGn (Y:=(X >>> 8).setWidth 8) hs rfl rfl rfl underlying9 zDX rfl ?_
  intro a w hs;refine zBx hs rfl (bvr (BitVec.ofNat 8 (zAo ((X >>> 8).setWidth 8).toNat))) underlying5 underlying3 rfl ?_
  refine goL 2 [] [2] .n ⟨(by omega),?_⟩
  have l9:=zU4 (X >>> 8) (by omega)
  intro a w hs;exact fin hs rfl rfl ⟨congrArg (Value.int .i64) (by omega),rfl⟩
 refine go 2 [] [20,19] .n ?_
 intro a w hs;refine zBC (X:=X) hs rfl rfl underlying167 underlying5 rfl ?_
 intro a w hs;refine zGn (Y:=(X).setWidth 8) hs rfl rfl rfl underlying9 zDX rfl ?_
 intro a w hs;refine zBx hs rfl (bvr (BitVec.ofNat 8 (zAo ((X).setWidth 8).toNat))) underlying5 underlying3 rfl ?_
 refine goL 2 [] [2] .n ⟨(by omega),?_⟩
 have l9:=zU4 X (by omega)
 intro a w hs;exact fin hs rfl rfl ⟨congrArg (Value.int .i64) (by omega),rfl⟩
theorem zWG (X:BitVec 64) (w0:World):Calls Tryz.prog 185 #[.int .u64 (X.toNat:Int)] w0 (zAj w0 (nI (zBW X.toNat))):=by
 have hx:=X.isLt
 have hl:=zDQ hx
 refine zG (F0:=[(0,qI X)]) func185 rfl rfl rfl (.c .n) (Mem.nil _) ?_
 refine go 2 [] [3] .n ?_
 intro a w hs;refine zB (v:=nI (zAo X.toNat)) hs (.c rfl .n) call184 (zNv X _) rfl ?_
 refine goL 3 [] [7] .n ⟨(by omega),(by omega),?_⟩
 intro a w hs;refine zXM hs rfl rfl (by omega) rfl ?_
 refine goL 1 [] [2] .n ?_
 intro a w hs;exact fin hs rfl rfl ⟨congrArg (Value.int .i64) (zTV X),rfl⟩
theorem zEG (X:BitVec 64) (w0:World):Calls Tryz.prog 174 #[.int .u64 (X.toNat:Int)] w0 (Ret w0 [] fun r N=>N = [row r 5 1 (zBW X.toNat) (zC (zCP X.toNat))]):=by
 have hvl:=zCx X.toNat
 have hvp:=zC2 X.toNat
 refine zG (F0:=[(0,qI X)]) func174 rfl rfl rfl (.c .n) (Mem.nil _) ?_
 refine go 2 [] [5,0] .n ?_
 intro a w hs;refine zB (v:=nI (zBW X.toNat)) hs (.c rfl .n) call185 (zWG X _) rfl ?_
 intro a w hs;refine zaw (m:=zBW X.toNat) (bytes:=1) hs rfl rfl underlying31 (i:=Tryz.t5) rfl rfl rfl rfl (by show 1 * (zBW X.toNat) ≤ 281474976710656;omega) (by omega) rfl ?_;intro v1
 refine cl (·.rerow .z (m':=zBW X.toNat) (xs':=zC (zLi X (zBW X.toNat) 0)) (by omega) (by simp [zC,zKc,zLi])) ?_
 refine goL 2 [] [8,3,0] .n ?_
 intro a w hs;refine zAD hs rfl (zL (hs.mem.del .z)).isSl underlying31 rfl ?_
 refine goL 1 [] [10,9,3,0] .n ?_
 intro a w hs;refine zCL (fun mm_ a w=>∃ k:Nat,mm_ = zBW X.toNat - k ∧ St 32 [(0,qI X),(3,v1),(9,nI (zBW X.toNat)),(10,zI (k:Int))] w0 [] [row v1 5 1 (zBW X.toNat) (zC (zLi X (zBW X.toNat) k))] a w ∧ k ≤ zBW X.toNat) ⟨0,rfl,hs.sub (.c rfl (.c rfl (.c rfl (.c rfl .n)))),by omega⟩ ?_
 clear hs w a;rintro mm_ a w ⟨k,rfl,hs,hI1_0⟩
 have hlp:=zDO X (zBW X.toNat) k
 revert a w hs
 refine go 1 [] [11,0,3,9,10] .n ?_
 refine ifG rfl (fun c_2=>?_) (fun c_2=>?_)
 ·
  refine go 7 [] [17,15,14,13,0,3,9,10] .n ⟨(by omega),?_⟩
  have hv_:(7 * (k:Int):Int) = (((7 * k:Nat):Int):Int):=by omega
  intro a w hs;rw [hv_] at hs;clear hv_
  refine zAM (X:=X) (m:=(7 * k)) hs rfl rfl rfl rfl rfl ?_
  intro a w hs;refine zBC (X:=X >>> (7 * k)) hs rfl rfl underlying167 underlying5 rfl ?_
  intro a w hs;refine zJt (X:=(X >>> (7 * k)).setWidth 8) (Y:=128#8) hs rfl rfl rfl (by decide) rfl ?_
  intro a w hs;refine zAy (j:=k) hs rfl rfl (zL (hs.mem.del .z)) rfl (by omega) underlying31 sizeOf5 rfl ?_
  intro a w hs;refine zMf hs rfl rfl .z (by omega) rfl sizeOf5 ?_
  refine cl (·.rerow .z (m':=zBW X.toNat) (xs':=zC ((zLi X (zBW X.toNat) k).set k (((X >>> (7 * k)).setWidth 8) ||| (128#8)))) (rfl) ((zEq _ _ _).symm)) ?_
  refine goL 2 [] [10,0,3,9] .n ⟨(by omega),?_⟩
  intro a w hs;refine ⟨_,?_,k + 1,rfl,hs.sub (.c rfl (.c rfl (.c rfl (.c rfl .n)))),by omega⟩
  omega
 refine go 2 [] [24,23,3] .n ?_
 intro a w hs;refine zAD hs rfl (zL (hs.mem.del .z)).isSl underlying31 rfl ?_
 refine goL 1 [] [26,23,3] .n ⟨(by omega),?_⟩
 have hv_:(((zBW X.toNat:Nat):Int) - 1:Int) = (((zBW X.toNat - 1:Nat):Int):Int):=by omega
 intro a w hs;rw [hv_] at hs;clear hv_
 refine zAy (j:=(zBW X.toNat - 1)) hs rfl rfl (zL (hs.mem.del .z)) rfl (by omega) underlying31 sizeOf5 rfl ?_
 intro a w hs;refine zBS hs rfl (zL (hs.mem.del .z)) (zB3 (zLi X (zBW X.toNat) k) (by first | omega | (simp;omega))) isAgg5 rfl ?_
 intro a w hs;refine zEg (X:=(zLi X (zBW X.toNat) k).getD (zBW X.toNat - 1) 0) (Y:=128#8) hs rfl rfl rfl (by decide) rfl ?_
 intro a w hs;refine zAy (j:=(zBW X.toNat - 1)) hs rfl rfl (zL (hs.mem.del .z)) rfl (by omega) underlying31 sizeOf5 rfl ?_
 intro a w hs;refine zMf hs rfl rfl .z (by omega) rfl sizeOf5 ?_
 refine cl (·.rerow .z (m':=zBW X.toNat) (xs':=zC ((zLi X (zBW X.toNat) k).set (zBW X.toNat - 1) (((zLi X (zBW X.toNat) k).getD (zBW X.toNat - 1) 0) &&& ~~~(128#8)))) (rfl) ((zEq _ _ _).symm)) ?_
 refine goL 2 [] [2] .n ?_
 intro a w hs;replace hs:=hs.rerow .z (m':=zBW X.toNat) (xs':=zC (zCP X.toNat)) (by omega) (by rw [show k = zBW X.toNat by omega];exact congrArg zC (zZI X _ rfl))
 exact fin hs rfl rfl rfl
theorem zaA (v:Value) (m:Nat) (bs:List zQ) (w0:World) (hb:Rd w0 [] v 1 m (zC bs)):Calls Tryz.prog 130 #[v] w0 (zAj w0 (.tuple #[.int .u64 (((zCN bs).1.toNat:Nat):Int),nI ((zCN bs).2.1),nI ((zCN bs).2.2)])):=by
 have hbl:bs.length = m:=by have:=hb.len;simpa [zC] using this
 have hbe:m ≤ maxLen:=hb.le
 simp only [maxLen] at hbe
 refine zG (F0:=[(0,v)]) func130 rfl rfl rfl (.c .n) (Mem.nil _) ?_
 refine go 4 [] [9,0] .n ?_
 intro a w hs;refine zAD hs rfl (hs.rd0 hb).isSl underlying31 rfl ?_
 refine goL 1 [] [11,0] .n ?_
 refine ifG rfl (fun c_1=>?_) (fun c_1=>?_)
 ·
  refine go 3 [] [4,3,2] .n ?_
  intro a w hs;exact zEz hs rfl rfl rfl rfl ⟨by first | (rw [zCE (by omega)];rfl) | (rw [zBy (i:=i) hI1_2 (by omega) (by omega) (by omega) (by rw [← BitVec.toNat_inj];omega)];rfl) | (rw [zBw (i:=i) hI1_2 (by omega) (by omega) (by omega) (by omega)];rfl) | (rw [zCb (i:=i) hI1_2 (by omega) (by omega) (by omega) (by rw [← BitVec.toNat_inj];omega) (by omega),← zG3 bs i (by omega) (by omega)];rfl) | (rw [zBz (by omega)];rfl) | (rw [zBJ (by omega) (by omega) (by omega)];rfl),rfl⟩
 refine go 2 [] [12,5,0] .n ?_
 intro a w hs;refine zAD hs rfl (hs.rd0 hb).isSl underlying31 rfl ?_
 refine goL 2 [] [15,14,5,0] .n ?_
 intro a w hs;refine zCL (fun mm_ a w=>∃ i:Nat,mm_ = 10 - i ∧ St 60 [(0,v),(5,qI (BitVec.ofNat 64 (zEW (bs.take i)))),(14,zI (min (m:Int) 10)),(15,zI (i:Int))] w0 [] [] a w ∧ i ≤ m ∧ i ≤ 10 ∧ i ≤ zA4 10 bs) ⟨0,rfl,hs.sub (.c rfl (.c (congrArg (fun z:BitVec 64=>some (Value.int .u64 ((z.toNat:Nat):Int))) (show 0#64 = BitVec.ofNat 64 (zEW (bs.take 0)) by rw [List.take_zero];rfl)) (.c rfl (.c rfl .n)))),by omega,by omega,Nat.zero_le _⟩ ?_
 clear hs w a;rintro mm_ a w ⟨i,rfl,hs,hI1_0,hI1_1,hI1_2⟩
 revert a w hs
 refine go 1 [] [16,0,5,14,15] .n ?_
 refine ifG rfl (fun c_2=>?_) (fun c_2=>?_)
 ·
  refine go 4 [] [19,18,6,0,5,14,15] .n ?_
  intro a w hs;refine zAy (j:=i) hs rfl rfl (hs.rd0 hb) rfl (by omega) underlying31 sizeOf5 rfl ?_
  intro a w hs;refine zBS hs rfl (hs.rd0 hb) (zB3 bs (by first | omega | (simp;omega))) isAgg5 rfl ?_
  refine goL 2 [] [22,7,6,0,5,14,15] .n ?_
  intro a w hs;refine zEg (X:=bs.getD i 0) (Y:=128#8) hs rfl rfl rfl (by decide) rfl ?_
  intro a w hs;refine zGi (X:=(bs.getD i 0) &&& ~~~(128#8)) hs rfl rfl underlying5 underlying167 rfl ?_
  refine goL 2 [] [26,24,7,6,0,5,14,15] .n ⟨(by omega),?_⟩
  have hv_:(7 * (i:Int):Int) = (((7 * i:Nat):Int):Int):=by omega
  intro a w hs;rw [hv_] at hs;clear hv_
  refine zC7 (X:=((bs.getD i 0) &&& ~~~(128#8)).setWidth 64) (m:=(7 * i)) hs rfl rfl rfl rfl rfl ?_
  refine goL 4 [] [30,28,8,7,6,0,5,14,15] .n ⟨(by omega),?_⟩
  have hv_:(7 * (i:Int):Int) = (((7 * i:Nat):Int):Int):=by omega
  intro a w hs;rw [hv_] at hs;clear hv_
  refine zAM (X:=(((bs.getD i 0) &&& ~~~(128#8)).setWidth 64) <<< (7 * i)) (m:=(7 * i)) hs rfl rfl rfl rfl rfl ?_
  refine goL 1 [] [32,31,8,7,6,0,5,14,15] .n ?_
  intro a w hs;refine zEg (X:=bs.getD i 0) (Y:=128#8) hs rfl rfl rfl (by decide) rfl ?_
  intro a w hs;refine zGi (X:=(bs.getD i 0) &&& ~~~(128#8)) hs rfl rfl underlying5 underlying167 rfl ?_
  refine goL 2 [] [36,8,7,6,0,5,14,15] .n ?_
  intro a w hs;refine zW (b:=!(((((((((bs.getD i 0) &&& ~~~(128#8)).setWidth 64) <<< (7 * i)) >>> (7 * i)).toNat:Nat):Int):Int) == (((((bs.getD i 0) &&& ~~~(128#8)).setWidth 64).toNat:Nat):Int))) (fun c_3=>?_) (fun c_3=>?_)
  ·
   rw [c_3] at hs
   replace c_3:=zFV c_3
   replace c_3:=zAQ c_3
   revert a w hs
   refine go 3 [] [39,8,7,6,0,5,14,15] .n ?_
   refine ifG rfl (fun c_4=>?_) (fun c_4=>?_)
   ·
    refine go 3 [] [4,3,2] .n ?_
    intro a w hs;exact zEz hs rfl rfl rfl rfl ⟨by first | (rw [zCE (by omega)];rfl) | (rw [zBy (i:=i) hI1_2 (by omega) (by omega) (by omega) (by rw [← BitVec.toNat_inj];omega)];rfl) | (rw [zBw (i:=i) hI1_2 (by omega) (by omega) (by omega) (by omega)];rfl) | (rw [zCb (i:=i) hI1_2 (by omega) (by omega) (by omega) (by rw [← BitVec.toNat_inj];omega) (by omega),← zG3 bs i (by omega) (by omega)];rfl) | (rw [zBz (by omega)];rfl) | (rw [zBJ (by omega) (by omega) (by omega)];rfl),rfl⟩
   refine go 2 [] [41,40,7,6,0,14,15] .n ?_
   intro a w hs;refine zFq (X:=BitVec.ofNat 64 (zEW (bs.take i))) (Y:=(((bs.getD i 0) &&& ~~~(128#8)).setWidth 64) <<< (7 * i)) hs rfl rfl rfl rfl rfl ?_
   refine goL 4 [] [46,5,7,6,0,14,15] .n ?_
   refine ifG rfl (fun c_5=>?_) (fun c_5=>?_)
   ·
    refine go 2 [] [15,5,0,14] .n ⟨(by omega),?_⟩
    intro a w hs;rw [zG3 bs i (by omega) (by omega)] at hs
    refine ⟨_,?_,i + 1,rfl,hs.sub (.c rfl (.c rfl (.c rfl (.c rfl .n)))),by omega,by omega,zEv 10 i bs hI1_2 (by omega) (by omega) (by omega)⟩
    omega
   refine go 3 [] [52,5,6] .n ?_
   intro a w hs;refine zW (b:=((((bs.getD i 0).toNat:Nat):Int):Int) == 0) (fun c_6=>?_) (fun c_6=>?_)
   ·
    rw [c_6] at hs
    replace c_6:=eq_of_beq c_6
    revert a w hs
    refine go 4 [] [49,5,6] .n ?_
    refine ifG rfl (fun c_7=>?_) (fun c_7=>?_)
    ·
     refine go 3 [] [4,3,2] .n ?_
     intro a w hs;exact zEz hs rfl rfl rfl rfl ⟨by first | (rw [zCE (by omega)];rfl) | (rw [zBy (i:=i) hI1_2 (by omega) (by omega) (by omega) (by rw [← BitVec.toNat_inj];omega)];rfl) | (rw [zBw (i:=i) hI1_2 (by omega) (by omega) (by omega) (by omega)];rfl) | (rw [zCb (i:=i) hI1_2 (by omega) (by omega) (by omega) (by rw [← BitVec.toNat_inj];omega) (by omega),← zG3 bs i (by omega) (by omega)];rfl) | (rw [zBz (by omega)];rfl) | (rw [zBJ (by omega) (by omega) (by omega)];rfl),rfl⟩
    refine go 6 [] [4,3,2] .n ⟨(by omega),?_⟩
    intro a w hs;exact zEz hs rfl rfl rfl rfl ⟨by first | (rw [zCE (by omega)];rfl) | (rw [zBy (i:=i) hI1_2 (by omega) (by omega) (by omega) (by rw [← BitVec.toNat_inj];omega)];rfl) | (rw [zBw (i:=i) hI1_2 (by omega) (by omega) (by omega) (by omega)];rfl) | (rw [zCb (i:=i) hI1_2 (by omega) (by omega) (by omega) (by rw [← BitVec.toNat_inj];omega) (by omega),← zG3 bs i (by omega) (by omega)];rfl) | (rw [zBz (by omega)];rfl) | (rw [zBJ (by omega) (by omega) (by omega)];rfl),rfl⟩
   rw [c_6] at hs
   replace c_6:=zAQ c_6
   revert a w hs
   refine go 11 [] [4,3,2] .n ⟨(by omega),?_⟩
   intro a w hs;exact zEz hs rfl rfl rfl rfl ⟨by first | (rw [zCE (by omega)];rfl) | (rw [zBy (i:=i) hI1_2 (by omega) (by omega) (by omega) (by rw [← BitVec.toNat_inj];omega)];rfl) | (rw [zBw (i:=i) hI1_2 (by omega) (by omega) (by omega) (by omega)];rfl) | (rw [zCb (i:=i) hI1_2 (by omega) (by omega) (by omega) (by rw [← BitVec.toNat_inj];omega) (by omega),← zG3 bs i (by omega) (by omega)];rfl) | (rw [zBz (by omega)];rfl) | (rw [zBJ (by omega) (by omega) (by omega)];rfl),rfl⟩
  rw [c_3] at hs
  replace c_3:=zFM c_3
  replace c_3:=eq_of_beq c_3
  revert a w hs
  refine go 6 [] [41,40,7,6,0,14,15] .n ?_
  intro a w hs;refine zFq (X:=BitVec.ofNat 64 (zEW (bs.take i))) (Y:=(((bs.getD i 0) &&& ~~~(128#8)).setWidth 64) <<< (7 * i)) hs rfl rfl rfl rfl rfl ?_
  refine goL 4 [] [46,5,7,6,0,14,15] .n ?_
  refine ifG rfl (fun c_8=>?_) (fun c_8=>?_)
  ·
   refine go 2 [] [15,5,0,14] .n ⟨(by omega),?_⟩
   intro a w hs;rw [zG3 bs i (by omega) (by omega)] at hs
   refine ⟨_,?_,i + 1,rfl,hs.sub (.c rfl (.c rfl (.c rfl (.c rfl .n)))),by omega,by omega,zEv 10 i bs hI1_2 (by omega) (by omega) (by omega)⟩
   omega
  refine go 3 [] [52,5,6] .n ?_
  intro a w hs;refine zW (b:=((((bs.getD i 0).toNat:Nat):Int):Int) == 0) (fun c_9=>?_) (fun c_9=>?_)
  ·
   rw [c_9] at hs
   replace c_9:=eq_of_beq c_9
   revert a w hs
   refine go 4 [] [49,5,6] .n ?_
   refine ifG rfl (fun c_10=>?_) (fun c_10=>?_)
   ·
    refine go 3 [] [4,3,2] .n ?_
    intro a w hs;exact zEz hs rfl rfl rfl rfl ⟨by first | (rw [zCE (by omega)];rfl) | (rw [zBy (i:=i) hI1_2 (by omega) (by omega) (by omega) (by rw [← BitVec.toNat_inj];omega)];rfl) | (rw [zBw (i:=i) hI1_2 (by omega) (by omega) (by omega) (by omega)];rfl) | (rw [zCb (i:=i) hI1_2 (by omega) (by omega) (by omega) (by rw [← BitVec.toNat_inj];omega) (by omega),← zG3 bs i (by omega) (by omega)];rfl) | (rw [zBz (by omega)];rfl) | (rw [zBJ (by omega) (by omega) (by omega)];rfl),rfl⟩
   refine go 6 [] [4,3,2] .n ⟨(by omega),?_⟩
   intro a w hs;exact zEz hs rfl rfl rfl rfl ⟨by first | (rw [zCE (by omega)];rfl) | (rw [zBy (i:=i) hI1_2 (by omega) (by omega) (by omega) (by rw [← BitVec.toNat_inj];omega)];rfl) | (rw [zBw (i:=i) hI1_2 (by omega) (by omega) (by omega) (by omega)];rfl) | (rw [zCb (i:=i) hI1_2 (by omega) (by omega) (by omega) (by rw [← BitVec.toNat_inj];omega) (by omega),← zG3 bs i (by omega) (by omega)];rfl) | (rw [zBz (by omega)];rfl) | (rw [zBJ (by omega) (by omega) (by omega)];rfl),rfl⟩
  rw [c_9] at hs
  replace c_9:=zAQ c_9
  revert a w hs
  refine go 11 [] [4,3,2] .n ⟨(by omega),?_⟩
  intro a w hs;exact zEz hs rfl rfl rfl rfl ⟨by first | (rw [zCE (by omega)];rfl) | (rw [zBy (i:=i) hI1_2 (by omega) (by omega) (by omega) (by rw [← BitVec.toNat_inj];omega)];rfl) | (rw [zBw (i:=i) hI1_2 (by omega) (by omega) (by omega) (by omega)];rfl) | (rw [zCb (i:=i) hI1_2 (by omega) (by omega) (by omega) (by rw [← BitVec.toNat_inj];omega) (by omega),← zG3 bs i (by omega) (by omega)];rfl) | (rw [zBz (by omega)];rfl) | (rw [zBJ (by omega) (by omega) (by omega)];rfl),rfl⟩
 refine go 1 [] [57] .n ?_
 intro a w hs;refine zAD hs rfl (hs.rd0 hb).isSl underlying31 rfl ?_
 refine goL 1 [] [59] .n ?_
 refine ifG rfl (fun c_11=>?_) (fun c_11=>?_)
 ·
  refine go 3 [] [4,3,2] .n ?_
  intro a w hs;exact zEz hs rfl rfl rfl rfl ⟨by first | (rw [zCE (by omega)];rfl) | (rw [zBy (i:=i) hI1_2 (by omega) (by omega) (by omega) (by rw [← BitVec.toNat_inj];omega)];rfl) | (rw [zBw (i:=i) hI1_2 (by omega) (by omega) (by omega) (by omega)];rfl) | (rw [zCb (i:=i) hI1_2 (by omega) (by omega) (by omega) (by rw [← BitVec.toNat_inj];omega) (by omega),← zG3 bs i (by omega) (by omega)];rfl) | (rw [zBz (by omega)];rfl) | (rw [zBJ (by omega) (by omega) (by omega)];rfl),rfl⟩
 refine go 3 [] [4,3,2] .n ?_
 intro a w hs;exact zEz hs rfl rfl rfl rfl ⟨by first | (rw [zCE (by omega)];rfl) | (rw [zBy (i:=i) hI1_2 (by omega) (by omega) (by omega) (by rw [← BitVec.toNat_inj];omega)];rfl) | (rw [zBw (i:=i) hI1_2 (by omega) (by omega) (by omega) (by omega)];rfl) | (rw [zCb (i:=i) hI1_2 (by omega) (by omega) (by omega) (by rw [← BitVec.toNat_inj];omega) (by omega),← zG3 bs i (by omega) (by omega)];rfl) | (rw [zBz (by omega)];rfl) | (rw [zBJ (by omega) (by omega) (by omega)];rfl),rfl⟩
theorem zPv (p:Int) (w0:World) (hp : -9223372036854775808 ≤ p ∧ p ≤ 9223372036854775807):Calls Tryz.prog 173 #[.int .i64 p] w0 (zAj w0 (qI (zGC p))):=by
 refine zG (F0:=[(0,zI p)]) func173 rfl rfl rfl (.c .n) (Mem.nil _) ?_
 refine go 2 [] [3,0] .n ?_
 intro a w hs;refine zXe (m:=1) hs rfl rfl (by decide) rfl ?_
 intro a w hs;refine zAY hs rfl underlying2 underlying167 rfl ?_
 refine goL 1 [] [6,5] .n ?_
 intro a w hs;refine zRD (m:=63) hs rfl rfl (by decide) rfl ?_
 intro a w hs;refine zAY hs rfl underlying2 underlying167 rfl ?_
 intro a w hs;refine zOy (X:=BitVec.ofInt 64 (IntKind.i64.wrap (p * 2 ^ (min 1 64)))) (Y:=BitVec.ofInt 64 ((p).fdiv (2 ^ (min 63 64)))) hs rfl rfl rfl rfl rfl ?_
 refine goL 1 [] [2] .n ?_
 intro a w hs;exact fin hs rfl rfl ⟨by rw [zYp p hp],rfl⟩
theorem zaJ (X:BitVec 64) (w0:World):Calls Tryz.prog 131 #[.int .u64 (X.toNat:Int)] w0 (zAj w0 (zI (zN2 X))):=by
 refine zG (F0:=[(0,qI X)]) func131 rfl rfl rfl (.c .n) (Mem.nil _) ?_
 refine go 2 [] [3,0] .n ?_
 intro a w hs;refine zAM (X:=X) (m:=1) hs rfl rfl rfl (by decide) rfl ?_
 intro a w hs;refine zAO (X:=X >>> 1) hs rfl rfl underlying167 underlying2 rfl ?_
 refine goL 1 [] [6,5] .n ?_
 intro a w hs;refine zC5 (X:=X) (Y:=1#64) hs rfl rfl rfl (by decide) rfl ?_
 intro a w hs;refine zAO (X:=X &&& (1#64)) hs rfl rfl underlying167 underlying2 rfl ?_
 refine goL 1 [] [9,5] .n ⟨(by rw [zZx];omega),?_⟩
 intro a w hs;refine zWE hs rfl rfl rfl ?_
 refine goL 1 [] [2] .n ?_
 intro a w hs;exact fin hs rfl rfl ⟨by rw [zZO X],rfl⟩
end Go.Proofs.YtemnjodhidlfpaaGreat
