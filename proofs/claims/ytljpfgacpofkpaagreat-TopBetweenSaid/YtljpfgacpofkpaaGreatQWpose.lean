import Derived.Test.YtljpfgacpofkpaaGreatQG7
import Derived.Test.YtljpfgacpofkpaaGreatQG9
import Derived.Test.YtljpfgacpofkpaaGreatQG11
import Derived.Test.YtljpfgacpofkpaaGreatQG12
import Derived.Test.YtljpfgacpofkpaaGreatQG13
import Derived.Test.YtljpfgacpofkpaaGreatQWdel
import Derived.Test.YtljpfgacpofkpaaGreatQSxBasB
set_option linter.unusedVariables false
set_option linter.unusedSimpArgs false
namespace Go.Proofs.YtljpfgacpofkpaaGreat
open Tryz
open Go Go.Sx Go.RowKit
set_option maxRecDepth 4000
set_option maxHeartbeats 1000000
theorem zMy (c:zAS) (L:List RI) (v:Value) (w0:World) (hL:∀ x∈L,x.ok w0) (hb:Rd w0 [] v 3 L.length (L.flatMap snV)):Calls Tryz.prog 100 #[.agg #[zI c.ring,zI c.window,zI c.base,zI c.gain,zI c.least,zI c.most,zI c.slack,zI c.num,zI c.den,zI c.extra,.bool (c.curve)],v] w0 (zAh w0 (nI (zFY c L))):=by
 have hle:=hb.le
 simp only [maxLen] at hle
 refine zG (F0:=[(0,.agg #[zI c.ring,zI c.window,zI c.base,zI c.gain,zI c.least,zI c.most,zI c.slack,zI c.num,zI c.den,zI c.extra,.bool (c.curve)]),(1,v)]) func100 rfl rfl rfl (.c (.c .n)) (Mem.nil _) ?_
 refine go 3 [0,0] [9,1] .n (λg1=>⟨rfl,?_⟩)
 intro a w hs;refine zB (v:=nI (zCb c)) hs (.c rfl .n) call67 (zM3 c _) rfl ?_
 refine goL 3 [] [12,5,1] .n ?_
 refine ifG rfl (λc_2=>?_) (λc_2=>?_)
 ·
  refine go 2 [] [4] .n ?_
  refine cl (·.drop (.c .z .n)) ?_
  intro a w hs;exact fin hs rfl rfl ⟨congrArg (λn:Nat=>Value.int .i64 (n:Int)) (zbB (by assumption)),rfl⟩
 refine go 1 [] [14] .n ?_
 intro a w hs;refine zAG hs rfl (hs.rd0 hb).isSl underlying37 rfl ?_
 refine goL 1 [] [16,15,14] .n ?_
 refine cl (·.drop (.c .z .n)) ?_
 intro a w hs;refine zCC (λmm_ a w=>∃ j:Nat,mm_=L.length-j∧St 26 [(14,v),(15,nI L.length),(16,zI (j:Int))] w0 [] [] a w∧j≤L.length∧zEe (L.drop j)=zEe L) ⟨0,rfl,hs.sub (.c rfl (.c rfl (.c rfl .n))),by omega,rfl⟩ ?_
 clear hs w a;rintro mm_ a w ⟨j,rfl,hs,hI1_0,hI1_1⟩
 revert a w hs
 refine go 1 [] [17,14,15,16] .n ?_
 refine ifG rfl (λc_3=>?_) (λc_3=>?_)
 ·
  refine go 0 [] [14,15,16] .n ?_
  intro a w hs;refine zBF (j:=j) hs rfl rfl (hs.rd0 hb) rfl (by omega) underlying37 sizeOf46 rfl ?_
  intro a w hs;refine zAx (cs:=snV (L.getD j default)) hs rfl (hs.rd0 hb) (zAZ zAm L j (by omega)) (by rw [zAN zAm];omega) (by omega) isAgg46 sizeOf46 rfl ?_
  have ho1:=(hL _ (zD1 (l:=L) (i:=j) (by omega))).t;have ho2:=(hL _ (zD1 (l:=L) (i:=j) (by omega))).tm
  refine goL 3 [50,0] [20,14,15,16] .n (λg4=>⟨rfl,(zF rfl (zF rfl (zF (hL _ (zD1 (by omega))).rd.isSl.one zAX))),rfl,?_⟩)
  intro a w hs;refine zB (v:=nI (zAB ((L.getD j default).t) ((L.getD j default).tm) ((L.getD j default).l))) hs (.c rfl .n) call95 (zIT ((L.getD j default).t) ((L.getD j default).tm) _ ((L.getD j default).l) _ (by omega) (by omega) (hs.rd0 (hL _ (zD1 (by omega))).rd)) rfl ?_
  refine goL 3 [] [23,8,14,15,16] .n ?_
  refine ifG rfl (λc_5=>?_) (λc_5=>?_)
  ·
   refine go 2 [] [4] .n ?_
   refine cl (·.drop (.c .z .n)) ?_
   intro a w hs;exact fin hs rfl rfl ⟨congrArg (λn:Nat=>Value.int .i64 (n:Int)) (zWx (by omega) (zTG (by omega) hI1_1 (by assumption))),rfl⟩
  refine go 2 [] [16,14,15] .n ⟨(by omega),?_⟩
  refine cl (·.drop (.c .z .n)) ?_
  intro a w hs;refine ⟨_,?_,j+1,rfl,hs.sub (.c rfl (.c rfl (.c rfl .n))),by omega,zPT (by omega) hI1_1 (by assumption)⟩
  omega
 refine go 1 [] [4] .n ?_
 intro a w hs;exact fin hs rfl rfl ⟨congrArg (λn:Nat=>Value.int .i64 (n:Int)) (zWx (by omega) (zQy (by omega) hI1_1)),rfl⟩
theorem zLQ (x:zS) (w0:World):Calls Tryz.prog 151 #[.agg #[zI x.id,zI x.p0,zI x.p1,zI x.p2,zI x.v0,zI x.v1,zI x.v2,.int .u16 (((x.a).toNat:Nat):Int),bI x.g]] w0 (zAh w0 (.agg #[zI ((zCH x).id),zI ((zCH x).p0),zI ((zCH x).p1),zI ((zCH x).p2),.int .u16 ((((zCH x).a).toNat:Nat):Int),zI ((zCH x).m)])):=by
 refine zG (F0:=[(0,.agg #[zI x.id,zI x.p0,zI x.p1,zI x.p2,zI x.v0,zI x.v1,zI x.v2,.int .u16 (((x.a).toNat:Nat):Int),bI x.g])]) func151 rfl rfl rfl (.c .n) (Mem.nil _) ?_
 refine go 10 [0,1,1,1,0] [2] .n (λg1=>λg2=>⟨rfl,rfl,rfl,rfl,?_⟩)
 intro a w hs;exact zI0 hs rfl rfl .z (.z (.c (.c (.c (.c (.c (.c .n))))))) isAgg43 sizeOf43 (.c (.s .z) (.c .z .n)) ⟨rfl,rfl⟩
theorem zaK  (w0:World):Calls Tryz.prog 338 #[.agg #[]] w0 (zAh w0 (zI 1)):=by
 refine zG (F0:=[(0,.agg #[])]) func338 rfl rfl rfl (.c .n) (Mem.nil _) ?_
 refine go 3 [0] [2] .n (λg1=>?_)
 refine cl (·.drop (.c .z .n)) ?_
 intro a w hs;exact fin hs rfl rfl ⟨rfl,rfl⟩
theorem zaO  (w0:World):Calls Tryz.prog 331 #[.agg #[]] w0 (zAh w0 (zI 2)):=by
 refine zG (F0:=[(0,.agg #[])]) func331 rfl rfl rfl (.c .n) (Mem.nil _) ?_
 refine go 3 [0] [2] .n (λg1=>?_)
 refine cl (·.drop (.c .z .n)) ?_
 intro a w hs;exact fin hs rfl rfl ⟨rfl,rfl⟩
theorem zaj (x y:zS) (n d:Int) (hx:x.wf) (hy:y.wf) (w0:World):Calls Tryz.prog 339 #[.agg #[],.agg #[zI x.id,zI x.p0,zI x.p1,zI x.p2,zI x.v0,zI x.v1,zI x.v2,.int .u16 (((x.a).toNat:Nat):Int),bI x.g],.agg #[zI y.id,zI y.p0,zI y.p1,zI y.p2,zI y.v0,zI y.v1,zI y.v2,.int .u16 (((y.a).toNat:Nat):Int),bI y.g],zI n,zI d] w0 (zAh w0 (.agg #[zI (pL n d x.p0 y.p0),zI (pL n d x.p1 y.p1),zI (pL n d x.p2 y.p2)])):=by
 have hxp0:=hx.p0;have hxp1:=hx.p1;have hxp2:=hx.p2;have hxv0:=hx.v0;have hxv1:=hx.v1;have hxv2:=hx.v2;have hyp0:=hy.p0;have hyp1:=hy.p1;have hyp2:=hy.p2;have hyv0:=hy.v0;have hyv1:=hy.v1;have hyv2:=hy.v2
 refine zG (F0:=[(0,.agg #[]),(1,.agg #[zI x.id,zI x.p0,zI x.p1,zI x.p2,zI x.v0,zI x.v1,zI x.v2,.int .u16 (((x.a).toNat:Nat):Int),bI x.g]),(2,.agg #[zI y.id,zI y.p0,zI y.p1,zI y.p2,zI y.v0,zI y.v1,zI y.v2,.int .u16 (((y.a).toNat:Nat):Int),bI y.g]),(3,zI n),(4,zI d)]) func339 rfl rfl rfl (.c (.c (.c (.c (.c .n))))) (Mem.nil _) ?_
 refine go 10 [0,0,0,2,1] [19,18,17,15,10] .n (λg1=>λg2=>λg3=>λg4=>⟨rfl,rfl,?_⟩)
 intro a w hs;refine zB (v:=.tuple #[.agg #[zI (bif zBP n d==0 then zCY x.p0 y.p0 n d else 0),zI (bif zBP n d==0 then zCY x.p1 y.p1 n d else 0),zI (bif zBP n d==0 then zCY x.p2 y.p2 n d else 0)],nI (zBP n d)]) hs (.c rfl (.c rfl (.c rfl (.c rfl .n)))) call340 (zTX x.p0 x.p1 x.p2 y.p0 y.p1 y.p2 n d (by omega) (by omega) (by omega) (by omega) (by omega) (by omega) _) rfl ?_
 refine goL 8 [0,0,1] [10] (.c .z .n) (λg5=>⟨rfl,rfl,rfl,?_⟩)
 intro a w hs;exact zI0 hs rfl rfl (.s .z) (.z (.c (.c (.c .n)))) isAgg40 sizeOf40 (.c (.s (.s (.s (.s .z)))) (.c (.s (.s (.s .z))) (.c (.s (.s .z)) (.c (.s .z) (.c .z .n))))) ⟨rfl,rfl⟩
theorem zau (x y:zS) (n d:Int) (hx:x.wf) (hy:y.wf) (w0:World):Calls Tryz.prog 332 #[.agg #[],.agg #[zI x.id,zI x.p0,zI x.p1,zI x.p2,zI x.v0,zI x.v1,zI x.v2,.int .u16 (((x.a).toNat:Nat):Int),bI x.g],.agg #[zI y.id,zI y.p0,zI y.p1,zI y.p2,zI y.v0,zI y.v1,zI y.v2,.int .u16 (((y.a).toNat:Nat):Int),bI y.g],zI n,zI d] w0 (zAh w0 (.agg #[zI (pC n d x.p0 x.v0 y.p0 y.v0),zI (pC n d x.p1 x.v1 y.p1 y.v1),zI (pC n d x.p2 x.v2 y.p2 y.v2)])):=by
 have hxp0:=hx.p0;have hxp1:=hx.p1;have hxp2:=hx.p2;have hxv0:=hx.v0;have hxv1:=hx.v1;have hxv2:=hx.v2;have hyp0:=hy.p0;have hyp1:=hy.p1;have hyp2:=hy.p2;have hyv0:=hy.v0;have hyv1:=hy.v1;have hyv2:=hy.v2
 refine zG (F0:=[(0,.agg #[]),(1,.agg #[zI x.id,zI x.p0,zI x.p1,zI x.p2,zI x.v0,zI x.v1,zI x.v2,.int .u16 (((x.a).toNat:Nat):Int),bI x.g]),(2,.agg #[zI y.id,zI y.p0,zI y.p1,zI y.p2,zI y.v0,zI y.v1,zI y.v2,.int .u16 (((y.a).toNat:Nat):Int),bI y.g]),(3,zI n),(4,zI d)]) func332 rfl rfl rfl (.c (.c (.c (.c (.c .n))))) (Mem.nil _) ?_
 refine go 14 [0,0,0,2,2,1,1] [23,22,21,19,17,15,10] .n (λg1=>λg2=>λg3=>λg4=>⟨rfl,rfl,rfl,rfl,?_⟩)
 intro a w hs;refine zB (v:=.tuple #[.agg #[zI (bif zBP n d==0 then cAt x.p0 x.v0 y.p0 y.v0 n d else 0),zI (bif zBP n d==0 then cAt x.p1 x.v1 y.p1 y.v1 n d else 0),zI (bif zBP n d==0 then cAt x.p2 x.v2 y.p2 y.v2 n d else 0)],nI (zBP n d)]) hs (.c rfl (.c rfl (.c rfl (.c rfl (.c rfl (.c rfl .n)))))) call333 (zYA x.p0 x.p1 x.p2 x.v0 x.v1 x.v2 y.p0 y.p1 y.p2 y.v0 y.v1 y.v2 n d (by omega) (by omega) (by omega) (by omega) (by omega) (by omega) (by omega) (by omega) (by omega) (by omega) (by omega) (by omega) _) rfl ?_
 refine goL 8 [0,0,1] [10] (.c .z .n) (λg5=>⟨rfl,rfl,rfl,?_⟩)
 intro a w hs;exact zI0 hs rfl rfl (.s .z) (.z (.c (.c (.c .n)))) isAgg40 sizeOf40 (.c (.s (.s (.s (.s .z)))) (.c (.s (.s (.s .z))) (.c (.s (.s .z)) (.c (.s .z) (.c .z .n))))) ⟨rfl,rfl⟩
theorem zaE (c:zAS) (w0:World):Calls Tryz.prog 154 #[.agg #[zI c.ring,zI c.window,zI c.base,zI c.gain,zI c.least,zI c.most,zI c.slack,zI c.num,zI c.den,zI c.extra,.bool (c.curve)]] w0 (zAh w0 (.iface (bif c.curve then 314 else 315) (.agg #[]))):=by
 refine zG (F0:=[(0,.agg #[zI c.ring,zI c.window,zI c.base,zI c.gain,zI c.least,zI c.most,zI c.slack,zI c.num,zI c.den,zI c.extra,.bool (c.curve)])]) func154 rfl rfl rfl (.c .n) (Mem.nil _) ?_
 refine go 4 [0,0] [4] .n (λg1=>⟨rfl,?_⟩)
 refine ifG rfl (λc_2=>?_) (λc_2=>?_)
 ·
  refine go 1 [] [5] .n ?_
  intro a w hs;refine zW1 hs rfl (λ_=>by kernel_rfl) rfl ?_
  refine goL 1 [] [2] .n ?_
  refine cl (·.drop (.c .z .n)) ?_
  intro a w hs;exact fin hs rfl rfl ⟨by rw [show c.curve=true by assumption];rfl,rfl⟩
 refine go 1 [] [7] .n ?_
 intro a w hs;refine zW1 hs rfl (λ_=>by kernel_rfl) rfl ?_
 refine goL 1 [] [2] .n ?_
 refine cl (·.drop (.c .z .n)) ?_
 intro a w hs;exact fin hs rfl rfl ⟨by rw [show c.curve=false by assumption];rfl,rfl⟩
theorem zRB (b:Bool) (f g:FuncId) (h:∀ args w,(callFunc f args).run Tryz.prog w = .ok (.enter f args) w) (h2:∀ args w,(callFunc g args).run Tryz.prog w = .ok (.enter g args) w):∀ args w,(callFunc (bif b then f else g) args).run Tryz.prog w = .ok (.enter (bif b then f else g) args) w:=by cases b<;>assumption
theorem zZn (c:zAS):∀ w,(method (Tryz.prog.types.size+Made.depth) (bif c.curve then 314 else 315) (.agg #[]) "afterimage/pose.mode").run Tryz.prog w = .ok ((bif c.curve then 331 else 338),.agg #[]) w:=by
 intro w;cases c.curve<;>kernel_rfl
theorem zVI (c:zAS):∀ w,(method (Tryz.prog.types.size+Made.depth) (bif c.curve then 314 else 315) (.agg #[]) "afterimage/pose.place").run Tryz.prog w = .ok ((bif c.curve then 332 else 339),.agg #[]) w:=by
 intro w;cases c.curve<;>kernel_rfl
theorem zbi (c:zAS) (w0:World):Calls Tryz.prog (bif c.curve then 331 else 338) #[.agg #[]] w0 (zAh w0 (zI (bif c.curve then 2 else 1))):=by
 cases c.curve
 · exact zaK w0
 · exact zaO w0
theorem zaN (c:zAS) (x y:zS) (n d:Int) (hx:x.wf) (hy:y.wf) (w0:World):Calls Tryz.prog (bif c.curve then 332 else 339) #[.agg #[],.agg #[zI x.id,zI x.p0,zI x.p1,zI x.p2,zI x.v0,zI x.v1,zI x.v2,.int .u16 (((x.a).toNat:Nat):Int),bI x.g],.agg #[zI y.id,zI y.p0,zI y.p1,zI y.p2,zI y.v0,zI y.v1,zI y.v2,.int .u16 (((y.a).toNat:Nat):Int),bI y.g],zI n,zI d] w0 (zAh w0 (.agg #[zI (pW c.curve n d x.p0 x.v0 y.p0 y.v0),zI (pW c.curve n d x.p1 x.v1 y.p1 y.v1),zI (pW c.curve n d x.p2 x.v2 y.p2 y.v2)])):=by
 cases c.curve
 · exact zaj x y n d hx hy w0
 · exact zau x y n d hx hy w0
theorem zX4 (c:zAS) (ra:RI) (t:Int) (ht : -9223372036854775808≤t∧t≤9223372036854775807) (w0:World) (hra:ra.ok w0):Calls Tryz.prog 102 #[.agg #[zI c.ring,zI c.window,zI c.base,zI c.gain,zI c.least,zI c.most,zI c.slack,zI c.num,zI c.den,zI c.extra,.bool (c.curve)],.agg #[zI ra.t,zI ra.tm,ra.v],.int .i64 t] w0 (Ret w0 [] λz N=>∃ v,z = .tuple #[v,nI (zDs c ra t)]∧N=[row v 43 6 (zC6 c ra t).length ((zC6 c ra t).flatMap zBk)]):=by
 have hat:=hra.tm;have hat2:=hra.t;have hle:=hra.rd.le
 simp only [maxLen] at hle
 refine zG (F0:=[(0,.agg #[zI c.ring,zI c.window,zI c.base,zI c.gain,zI c.least,zI c.most,zI c.slack,zI c.num,zI c.den,zI c.extra,.bool (c.curve)]),(1,.agg #[zI ra.t,zI ra.tm,ra.v]),(2,zI t)]) func102 rfl rfl rfl (.c (.c (.c .n))) (Mem.nil _) ?_
 refine go 7 [0,0,1,0] [18,16,4,3,2] .n (λg1=>λg2=>⟨rfl,rfl,λg3=>?_⟩)
 intro a w hs;refine zB (v:=nI (zFY c ([ra]))) hs (.c rfl (.c rfl .n)) call100 (zMy c ([ra]) (.slice (some ⟨g3,0,none⟩) 1 1) _ (zaH ((hra).to hs.mem)) (zAJ (m:=1) (size:=3) (hs.mem.del .z) rfl (by decide))) rfl ?_
 refine goL 3 [] [21,8,4,3,2] .n ?_
 refine ifG rfl (λc_4=>?_) (λc_4=>?_)
 ·
  refine go 3 [] [7,6] .n ?_
  have hE:zDs c ra t=zFY c ([ra]):=zXo (by assumption)
  have hS:(zC6 c ra t)=[]:=zRs (by rw [hE];assumption)
  refine cl (·.drop (.c (.s (.s .z)) (.c (.s .z) (.c .z .n)))) ?_
  refine cl (·.addNil 43 6) ?_
  intro a w hs;replace hs:=hs.rerow .z (m':=(zC6 c ra t).length) (xs':=((zC6 c ra t).flatMap zBk)) (by rw [hS];rfl) (by rw [hS];rfl)
  exact zBO hs rfl rfl rfl ⟨_,by rw [hE],rfl⟩
 have hc0:=zCt (by assumption)
 have hck:=zFh (zMc hc0).1;have hlen:=zHa hc0 (List.mem_singleton.2 rfl)
 refine go 2 [0] [25,24,4,3] (.c (.s .z) .n) ⟨rfl,?_⟩
 intro a w hs;refine zB (v:=.tuple #[zI ((zHG ra t).1),nI ((zHG ra t).2)]) hs (.c rfl (.c rfl .n)) call150 (zXu ra hra.rd.isSl t ⟨by omega,by omega⟩ ⟨by omega,by omega⟩ _) rfl ?_
 refine goL 7 [] [30,10,9,4,3] .n ?_
 refine ifG rfl (λc_5=>?_) (λc_5=>?_)
 ·
  refine go 3 [] [7,6] .n ?_
  have hE:zDs c ra t=(zHG ra t).2:=zTI hc0
  have hS:(zC6 c ra t)=[]:=zRs (by rw [hE];assumption)
  refine cl (·.drop (.c (.s (.s .z)) (.c (.s .z) (.c .z .n)))) ?_
  refine cl (·.addNil 43 6) ?_
  intro a w hs;replace hs:=hs.rerow .z (m':=(zC6 c ra t).length) (xs':=((zC6 c ra t).flatMap zBk)) (by rw [hS];rfl) (by rw [hS];rfl)
  exact zBO hs rfl rfl rfl ⟨_,by rw [hE],rfl⟩
 have hc2:=zCt (by assumption)
 have hE0:zDs c ra t=0:=by rw [zTI hc0];exact hc2
 have hbr0:=zNy ra t
 refine goF 8 1 [] [11,9,4,3] .n ?_
 intro a w hs;refine zZx (λa w=>∃ m:Int,∃ k:Int,St 66 [(3,pt g1 0),(4,pt g2 0),(9,zI k),(11,zI m)] w0 [] [blk g2 [zI ra.t,zI ra.tm,ra.v] 46,blk g3 [zI ra.t,zI ra.tm,ra.v] 46,blk g1 [zI c.ring,zI c.window,zI c.base,zI c.gain,zI c.least,zI c.most,zI c.slack,zI c.num,zI c.den,zI c.extra,.bool (c.curve)] 23] a w∧m=zHJ c (zHG ra t).1∧k=zIu c (zHG ra t).1) ?_ ?_
 ·
  revert a w hs
  refine go 3 [] [32,11,9,4,3] .n ?_
  refine ifG rfl (λc_6=>?_) (λc_6=>?_)
  ·
   refine go 1 [] [11,9,4,3] .n ?_
   intro a w hs;exact ⟨0,((zHG ra t).1),hs.sub (.c rfl (.c rfl (.c rfl (.c rfl .n)))),by first | exact (zFE (by assumption)).1 | exact (zFN (by assumption) (by assumption)).1 | exact (zFG (by assumption) (by assumption)).1,by first | exact (zFE (by assumption)).2 | exact (zFN (by assumption) (by assumption)).2 | exact (zFG (by assumption) (by assumption)).2⟩
  refine go 5 [0] [35,11,9,4,3] (.c (.s (.s .z)) .n) ⟨rfl,?_⟩
  refine ifG rfl (λc_7=>?_) (λc_7=>?_)
  ·
   refine cl (·.sub (F':=[(4,pt g2 0),(3,pt g1 0)]) (.c rfl (.c rfl .n))) ?_
   intro a w hs
   refine zO [.p [] [],.p [0] [0],.p [] [],.p [1] []] [2,3] hs .n (.c .z .n) (by kernel_rfl) ⟨rfl,⟨rfl,by kernel_rfl,λ_=>rfl,rfl,rfl,trivial⟩,λ_=>rfl,?_⟩
   refine goE 0 [] [9,11,4,3] .n ?_
   refine cl (·.reorder (.c (.s .z) (.c (.s .z) (.c .z .n)))) ?_
   intro a w hs;exact ⟨4,c.extra,hs.sub (.c rfl (.c rfl (.c rfl (.c rfl .n)))),by first | exact (zFE (by assumption)).1 | exact (zFN (by assumption) (by assumption)).1 | exact (zFG (by assumption) (by assumption)).1,by first | exact (zFE (by assumption)).2 | exact (zFN (by assumption) (by assumption)).2 | exact (zFG (by assumption) (by assumption)).2⟩
  refine go 0 [] [11,9,4,3] .n ?_
  refine cl (·.reorder (.c (.s .z) (.c (.s .z) (.c .z .n)))) ?_
  intro a w hs;exact ⟨3,((zHG ra t).1),hs.sub (.c rfl (.c rfl (.c rfl (.c rfl .n)))),by first | exact (zFE (by assumption)).1 | exact (zFN (by assumption) (by assumption)).1 | exact (zFG (by assumption) (by assumption)).1,by first | exact (zFE (by assumption)).2 | exact (zFN (by assumption) (by assumption)).2 | exact (zFG (by assumption) (by assumption)).2⟩
 clear hs w a;rintro a w ⟨m,k,hs,hJ9,hJ10⟩
 have hmk:=And.intro hJ9 hJ10;have hkr : -9223372036854775808≤k∧k≤9223372036854775807:=by have hbr:=zNy ra t;have hq:=hmk.2;unfold zIu at hq;split at hq<;>(try split at hq)<;>omega
 have hLL:zC6 c ra t=ra.l.map (zZs m k):=by rw [hmk.1,hmk.2];exact zYa hE0
 revert a w hs
 refine go 3 [0] [43,12,9,11] (.c .z .n) ⟨rfl,?_⟩
 intro a w hs;refine zAG hs rfl (hs.rd0 hra.rd).isSl underlying44 rfl ?_
 refine goL 1 [] [45,44,43,12,9,11] .n ?_
 refine cl (·.addNil 43 6) ?_
 refine cl (·.rerow .z (m':=0) (xs':=(((ra.l.take 0).map (zZs m k)).flatMap zBk)) (rfl) (rfl)) ?_
 intro a w hs;refine zCC (λmm_ a w=>∃ j:Nat,∃ u:Value,mm_=ra.l.length-j∧St 66 [(9,zI k),(11,zI m),(12,u),(43,ra.v),(44,nI ra.l.length),(45,zI (j:Int))] w0 [] [row u 43 6 j (((ra.l.take j).map (zZs m k)).flatMap zBk),blk g2 [zI ra.t,zI ra.tm,ra.v] 46,blk g3 [zI ra.t,zI ra.tm,ra.v] 46,blk g1 [zI c.ring,zI c.window,zI c.base,zI c.gain,zI c.least,zI c.most,zI c.slack,zI c.num,zI c.den,zI c.extra,.bool (c.curve)] 23] a w∧j≤ra.l.length) ⟨0,.slice none 0 0,rfl,hs.sub (.c rfl (.c rfl (.c rfl (.c rfl (.c rfl (.c rfl .n)))))),by omega⟩ ?_
 clear hs w a;rintro mm_ a w ⟨j,u,rfl,hs,hI1_0⟩
 revert a w hs
 refine go 1 [] [46,9,11,12,43,44,45] .n ?_
 refine ifG rfl (λc_11=>?_) (λc_11=>?_)
 ·
  refine go 0 [] [9,11,12,43,44,45] .n ?_
  intro a w hs;refine zBF (j:=j) hs rfl rfl (hs.rd0 hra.rd) rfl (by omega) underlying44 sizeOf48 rfl ?_
  intro a w hs;refine zAx (cs:=zBI (ra.l.getD j default)) hs rfl (hs.rd0 hra.rd) (zAZ zBa ra.l j (by omega)) (by rw [zAN zBa];omega) (by omega) isAgg48 sizeOf48 rfl ?_
  have hex:=(hra.wf _ (zSj (l:=ra.l) (i:=j) (by omega)));have hp0:=hex.p0;have hp1:=hex.p1;have hp2:=hex.p2;have hv0:=hex.v0;have hv1:=hex.v1;have hv2:=hex.v2
  refine goL 3 [0,0] [49,14,9,11,12,43,44,45] .n (λg12=>⟨rfl,rfl,?_⟩)
  intro a w hs;refine zB (v:=.agg #[zI ((zCH (ra.l.getD j default)).id),zI ((zCH (ra.l.getD j default)).p0),zI ((zCH (ra.l.getD j default)).p1),zI ((zCH (ra.l.getD j default)).p2),.int .u16 ((((zCH (ra.l.getD j default)).a).toNat:Nat):Int),zI ((zCH (ra.l.getD j default)).m)]) hs (.c rfl .n) call151 (zLQ (ra.l.getD j default) _) rfl ?_
  refine goL 8 [0,1,1] [56,55,53,51,15,9,11,12,43,44,45] (.c .z .n) (λg13=>⟨rfl,rfl,rfl,?_⟩)
  intro a w hs;refine zB (v:=.agg #[zI (zC0 ((ra.l.getD j default).p0) (zA1 ((ra.l.getD j default).v0) k)),zI (zC0 ((ra.l.getD j default).p1) (zA1 ((ra.l.getD j default).v1) k)),zI (zC0 ((ra.l.getD j default).p2) (zA1 ((ra.l.getD j default).v2) k))]) hs (.c rfl (.c rfl (.c rfl .n))) call152 (zaA ((ra.l.getD j default).p0) ((ra.l.getD j default).p1) ((ra.l.getD j default).p2) ((ra.l.getD j default).v0) ((ra.l.getD j default).v1) ((ra.l.getD j default).v2) k (by omega) (by omega) (by omega) (by omega) (by omega) (by omega) (by omega) _) rfl ?_
  refine goL 7 [0,0,0] [62,60,9,11,43,44,45] (.c .z .n) ⟨rfl,rfl,rfl,λg14=>?_⟩
  intro a w hs;refine zBH (size:=6) (bytes:=48) hs rfl rfl (.s (.s (.s .z))) (zAJ (m:=1) (size:=6) (hs.mem.del .z) rfl (by decide)) (by simp [Value.oneCell']) underlying31 (i:=Tryz.t43) rfl rfl rfl rfl rfl (by decide) (by omega) (by simp only [maxLen];omega) rfl ?_;intro v15
  refine cl (·.drop (.c (.s .z) .n)) ?_
  refine goL 3 [] [45,12,9,11,43,44] .n ⟨(by omega),?_⟩
  intro a w hs;replace hs:=hs.rerow .z (m':=(j+1)) (xs':=(((ra.l.take (j+1)).map (zZs m k)).flatMap zBk)) (rfl) (by rw [← zCj (by omega),List.flatMap_append];rfl)
  replace hs:=hs.drop (.c (.s (.s .z)) (.c (.s .z) .n))
  refine ⟨_,?_,(j+1),v15,rfl,hs.sub (.c rfl (.c rfl (.c rfl (.c rfl (.c rfl (.c rfl .n)))))),by omega⟩
  omega
 refine go 3 [] [7,6] .n ?_
 refine cl (·.drop (.c (.s (.s (.s .z))) (.c (.s (.s .z)) (.c (.s .z) .n)))) ?_
 intro a w hs;replace hs:=hs.rerow .z (m':=(zC6 c ra t).length) (xs':=((zC6 c ra t).flatMap zBk)) (by rw [hLL,List.length_map];omega) (by rw [hLL,List.take_of_length_le (by omega)])
 exact zBO hs rfl rfl rfl ⟨_,by rw [hE0];rfl,rfl⟩
theorem zZB (c:zAS) (ra rb:RI) (t:Int) (w0:World) (hra:ra.ok w0) (hrb:rb.ok w0):Calls Tryz.prog 103 #[.agg #[zI c.ring,zI c.window,zI c.base,zI c.gain,zI c.least,zI c.most,zI c.slack,zI c.num,zI c.den,zI c.extra,.bool (c.curve)],.agg #[zI ra.t,zI ra.tm,ra.v],.agg #[zI rb.t,zI rb.tm,rb.v],.int .i64 t] w0 (Ret w0 [] λz N=>∃ v,z = .tuple #[v,nI (zDT c ra rb t)]∧N=[row v 43 6 (zDR c ra rb t).length ((zDR c ra rb t).flatMap zBk)]):=by
 have hat:=hra.tm;have hat2:=hra.t;have hbt:=hrb.tm;have hbt2:=hrb.t;have hle:=hra.rd.le;have hle2:=hrb.rd.le
 simp only [maxLen] at hle hle2
 refine zG (F0:=[(0,.agg #[zI c.ring,zI c.window,zI c.base,zI c.gain,zI c.least,zI c.most,zI c.slack,zI c.num,zI c.den,zI c.extra,.bool (c.curve)]),(1,.agg #[zI ra.t,zI ra.tm,ra.v]),(2,.agg #[zI rb.t,zI rb.tm,rb.v]),(3,zI t)]) func103 rfl rfl rfl (.c (.c (.c (.c .n)))) (Mem.nil _) ?_
 refine go 9 [0,0,0,2,1,0] [24,21,6,5,4,3] .n (λg1=>λg2=>λg3=>⟨rfl,rfl,rfl,λg4=>?_⟩)
 intro a w hs;refine zB (v:=nI (zFY c ([ra,rb]))) hs (.c rfl (.c rfl .n)) call100 (zMy c ([ra,rb]) (.slice (some ⟨g4,0,none⟩) 2 2) _ (zaJ ((hra).to hs.mem) ((hrb).to hs.mem)) (zAJ (m:=2) (size:=3) (hs.mem.del .z) rfl (by decide))) rfl ?_
 refine goL 3 [] [27,10,6,5,4,3] .n ?_
 refine ifG rfl (λc_5=>?_) (λc_5=>?_)
 ·
  refine go 3 [] [9,8] .n ?_
  have hE:zDT c ra rb t=zFY c ([ra,rb]):=zZF (by assumption)
  have hS:(zDR c ra rb t)=[]:=zRX (by rw [hE];assumption)
  refine cl (·.drop (.c (.s (.s (.s .z))) (.c (.s (.s .z)) (.c (.s .z) (.c .z .n))))) ?_
  refine cl (·.addNil 43 6) ?_
  intro a w hs;replace hs:=hs.rerow .z (m':=(zDR c ra rb t).length) (xs':=((zDR c ra rb t).flatMap zBk)) (by rw [hS];rfl) (by rw [hS];rfl)
  exact zBO hs rfl rfl rfl ⟨_,by rw [hE],rfl⟩
 have hc0:=zCt (by assumption)
 have hlen:=zHa hc0 (List.mem_cons_self)
 refine go 3 [0,1] [32,31,30,6,5,4] (.c (.s (.s .z)) (.c (.s .z) .n)) ⟨rfl,rfl,?_⟩
 intro a w hs;refine zB (v:=.tuple #[zI ((zAp ra rb t).1),zI ((zAp ra rb t).2.1),nI ((zAp ra rb t).2.2)]) hs (.c rfl (.c rfl (.c rfl .n))) call153 (zUx ra rb hra.rd.isSl hrb.rd.isSl t _) rfl ?_
 refine goL 9 [] [38,13,12,11,6,5,4] .n ?_
 refine ifG rfl (λc_6=>?_) (λc_6=>?_)
 ·
  refine go 3 [] [9,8] .n ?_
  have hE:zDT c ra rb t=(zAp ra rb t).2.2:=zQi hc0
  have hS:(zDR c ra rb t)=[]:=zRX (by rw [hE];assumption)
  refine cl (·.drop (.c (.s (.s (.s .z))) (.c (.s (.s .z)) (.c (.s .z) (.c .z .n))))) ?_
  refine cl (·.addNil 43 6) ?_
  intro a w hs;replace hs:=hs.rerow .z (m':=(zDR c ra rb t).length) (xs':=((zDR c ra rb t).flatMap zBk)) (by rw [hS];rfl) (by rw [hS];rfl)
  exact zBO hs rfl rfl rfl ⟨_,by rw [hE],rfl⟩
 have hc2:=zCt (by assumption)
 have hE0:zDT c ra rb t=0:=by rw [zQi hc0];exact hc2
 have hLL:=zXy hE0
 refine go 1 [0] [40,12,11,6,5] (.c (.s (.s (.s .z))) .n) ⟨rfl,?_⟩
 intro a w hs;refine zB (v:=.iface (bif c.curve then 314 else 315) (.agg #[])) hs (.c rfl .n) call154 (zaE c _) rfl ?_
 refine goL 4 [0] [43,15,14,12,11,6] (.c (.s .z) .n) ⟨rfl,?_⟩
 intro a w hs;refine zAG hs rfl (hs.rd0 hra.rd).isSl underlying44 rfl ?_
 refine goL 1 [] [45,44,43,15,14,12,11,6] .n ?_
 refine cl (·.addNil 43 6) ?_
 refine cl (·.rerow .z (m':=0) (xs':=(((ra.l.take 0).map (zRm c.curve (zAp ra rb t).1 (zAp ra rb t).2.1 rb.l)).flatMap zBk)) (rfl) (rfl)) ?_
 intro a w hs;refine zCC (λmm_ a w=>∃ j:Nat,∃ u:Value,mm_=ra.l.length-j∧St 93 [(6,pt g3 0),(11,zI ((zAp ra rb t).1)),(12,zI ((zAp ra rb t).2.1)),(14,.iface (bif c.curve then 314 else 315) (.agg #[])),(15,u),(43,ra.v),(44,nI ra.l.length),(45,zI (j:Int))] w0 [] [row u 43 6 j (((ra.l.take j).map (zRm c.curve (zAp ra rb t).1 (zAp ra rb t).2.1 rb.l)).flatMap zBk),blk g2 [zI ra.t,zI ra.tm,ra.v] 46,blk g1 [zI c.ring,zI c.window,zI c.base,zI c.gain,zI c.least,zI c.most,zI c.slack,zI c.num,zI c.den,zI c.extra,.bool (c.curve)] 23,blk g3 [zI rb.t,zI rb.tm,rb.v] 46,blk g4 [zI ra.t,zI ra.tm,ra.v,zI rb.t,zI rb.tm,rb.v] 46] a w∧j≤ra.l.length) ⟨0,.slice none 0 0,rfl,hs.sub (.c rfl (.c rfl (.c rfl (.c rfl (.c rfl (.c rfl (.c rfl (.c rfl .n)))))))),by omega⟩ ?_
 clear hs w a;rintro mm_ a w ⟨j,u,rfl,hs,hI1_0⟩
 revert a w hs
 refine go 1 [] [46,6,11,12,14,15,43,44,45] .n ?_
 refine ifG rfl (λc_7=>?_) (λc_7=>?_)
 ·
  refine go 0 [] [6,11,12,14,15,43,44,45] .n ?_
  intro a w hs;refine zBF (j:=j) hs rfl rfl (hs.rd0 hra.rd) rfl (by omega) underlying44 sizeOf48 rfl ?_
  intro a w hs;refine zAx (cs:=zBI (ra.l.getD j default)) hs rfl (hs.rd0 hra.rd) (zAZ zBa ra.l j (by omega)) (by rw [zAN zBa];omega) (by omega) isAgg48 sizeOf48 rfl ?_
  have hex:=(hra.wf _ (zSj (l:=ra.l) (i:=j) (by omega)));have hp0:=hex.p0;have hp1:=hex.p1;have hp2:=hex.p2;have hv0:=hex.v0;have hv1:=hex.v1;have hv2:=hex.v2
  refine goL 3 [0,0] [49,17,6,11,12,14,15,43,44,45] .n (λg8=>⟨rfl,rfl,?_⟩)
  intro a w hs;refine zB (v:=.agg #[zI ((zCH (ra.l.getD j default)).id),zI ((zCH (ra.l.getD j default)).p0),zI ((zCH (ra.l.getD j default)).p1),zI ((zCH (ra.l.getD j default)).p2),.int .u16 ((((zCH (ra.l.getD j default)).a).toNat:Nat):Int),zI ((zCH (ra.l.getD j default)).m)]) hs (.c rfl .n) call151 (zLQ (ra.l.getD j default) _) rfl ?_
  refine goL 5 [0,1,2] [54,52,18,17,6,11,12,14,15,43,44,45] (.c (.s (.s (.s (.s .z)))) (.c .z .n)) (λg9=>⟨rfl,rfl,rfl,?_⟩)
  intro a w hs;refine zB (v:=.tuple #[.agg #[zI (((zT ((ra.l.getD j default).id) rb.l).getD zAA).id),zI (((zT ((ra.l.getD j default).id) rb.l).getD zAA).p0),zI (((zT ((ra.l.getD j default).id) rb.l).getD zAA).p1),zI (((zT ((ra.l.getD j default).id) rb.l).getD zAA).p2),zI (((zT ((ra.l.getD j default).id) rb.l).getD zAA).v0),zI (((zT ((ra.l.getD j default).id) rb.l).getD zAA).v1),zI (((zT ((ra.l.getD j default).id) rb.l).getD zAA).v2),.int .u16 (((((zT ((ra.l.getD j default).id) rb.l).getD zAA).a).toNat:Nat):Int),bI (((zT ((ra.l.getD j default).id) rb.l).getD zAA).g)],.bool ((zT ((ra.l.getD j default).id) rb.l).isSome)]) hs (.c rfl (.c rfl .n)) call10 (zIM rb.t rb.tm _ rb.l ((ra.l.getD j default).id) _ (hs.rd0 hrb.rd)) rfl ?_
  refine goL 8 [0] [59,19,18,17,6,11,12,14,15,43,44,45] .n (λg10=>⟨rfl,?_⟩)
  intro a w hs;refine zX (b:=(zT ((ra.l.getD j default).id) rb.l).isSome) (λc_11=>?_) (λc_11=>?_)
  ·
   rw [c_11] at hs
   revert a w hs
   refine go 6 [0,1] [65,19,18,17,6,11,12,14,15,43,44,45] (.c .z (.c (.s (.s .z)) .n)) ⟨rfl,rfl,?_⟩
   refine ifG rfl (λc_12=>?_) (λc_12=>?_)
   ·
    refine go 0 [] [19,18,17,6,11,12,14,15,43,44,45] .n ?_
    intro a w hs
    refine zO [.p [] [],.v [0] (zI (bif c.curve then 2 else 1)),.p [] [],.p [] [0],.p [] [1],.p [] [],.p [] [],.v [6,5,4,3,2] (.agg #[zI (pW c.curve ((zAp ra rb t).1) ((zAp ra rb t).2.1) (ra.l.getD j default).p0 (ra.l.getD j default).v0 ((zT ((ra.l.getD j default).id) rb.l).getD zAA).p0 ((zT ((ra.l.getD j default).id) rb.l).getD zAA).v0),zI (pW c.curve ((zAp ra rb t).1) ((zAp ra rb t).2.1) (ra.l.getD j default).p1 (ra.l.getD j default).v1 ((zT ((ra.l.getD j default).id) rb.l).getD zAA).p1 ((zT ((ra.l.getD j default).id) rb.l).getD zAA).v1),zI (pW c.curve ((zAp ra rb t).1) ((zAp ra rb t).2.1) (ra.l.getD j default).p2 (ra.l.getD j default).v2 ((zT ((ra.l.getD j default).id) rb.l).getD zAA).p2 ((zT ((ra.l.getD j default).id) rb.l).getD zAA).v2)]),.p [] [],.s [8,1] [0] [0] [],.p [] [],.s [10,7] [0] [] [9]] [] hs (.c (.s (.s .z)) .n) (.c (.s .z) (.c .z .n)) (by kernel_rfl) ⟨λ_ _ _ _ hm hs K=>zL9 (v:=zI (bif c.curve then 2 else 1)) hs rfl .n (zZn c) (zRB c.curve 331 338 call331 call338) (zbi c _) rfl (vk K),rfl,rfl,λ_ _ _ _ hm hs K=>zL9 (v:=.agg #[zI (pW c.curve ((zAp ra rb t).1) ((zAp ra rb t).2.1) (ra.l.getD j default).p0 (ra.l.getD j default).v0 ((zT ((ra.l.getD j default).id) rb.l).getD zAA).p0 ((zT ((ra.l.getD j default).id) rb.l).getD zAA).v0),zI (pW c.curve ((zAp ra rb t).1) ((zAp ra rb t).2.1) (ra.l.getD j default).p1 (ra.l.getD j default).v1 ((zT ((ra.l.getD j default).id) rb.l).getD zAA).p1 ((zT ((ra.l.getD j default).id) rb.l).getD zAA).v1),zI (pW c.curve ((zAp ra rb t).1) ((zAp ra rb t).2.1) (ra.l.getD j default).p2 (ra.l.getD j default).v2 ((zT ((ra.l.getD j default).id) rb.l).getD zAA).p2 ((zT ((ra.l.getD j default).id) rb.l).getD zAA).v2)]) hs rfl (.c rfl (.c rfl (.c rfl (.c rfl .n)))) (zVI c) (zRB c.curve 332 339 call332 call339) (zaN c (ra.l.getD j default) ((zT ((ra.l.getD j default).id) rb.l).getD zAA) ((zAp ra rb t).1) ((zAp ra rb t).2.1) (hra.wf _ (zSj (by omega))) (zZH hrb.wf) _) rfl (vk K),rfl,rfl,⟨rfl,by kernel_rfl,λ_=>rfl,rfl,rfl,trivial⟩,λ_=>rfl,?_⟩
    refine goE 6 [0,1] [82,81,80,78,18,6,11,12,14,15,43,44,45] (.c (.s .z) (.c .z .n)) ⟨rfl,rfl,?_⟩
    intro a w hs;refine zB (v:=.tuple #[.int .u16 (((bif zBP ((zAp ra rb t).1) ((zAp ra rb t).2.1)==0 then zQf ((ra.l.getD j default).a) (((zT ((ra.l.getD j default).id) rb.l).getD zAA).a) ((zAp ra rb t).1) ((zAp ra rb t).2.1) else 0#16).toNat:Nat):Int),nI (zBP ((zAp ra rb t).1) ((zAp ra rb t).2.1))]) hs (.c rfl (.c rfl (.c rfl (.c rfl .n)))) call155 (zV2 ((ra.l.getD j default).a) (((zT ((ra.l.getD j default).id) rb.l).getD zAA).a) ((zAp ra rb t).1) ((zAp ra rb t).2.1) _) rfl ?_
    refine goL 8 [0,0] [89,87,6,11,12,14,43,44,45] (.c (.s (.s (.s (.s (.s (.s (.s .z))))))) .n) ⟨rfl,rfl,λg14=>?_⟩
    intro a w hs;refine zBH (size:=6) (bytes:=48) hs rfl rfl (.s (.s (.s (.s (.s .z))))) (zAJ (m:=1) (size:=6) (hs.mem.del .z) rfl (by decide)) (by simp [Value.oneCell']) underlying31 (i:=Tryz.t43) rfl rfl rfl rfl rfl (by decide) (by omega) (by simp only [maxLen];omega) rfl ?_;intro v15
    refine cl (·.drop (.c (.s .z) .n)) ?_
    refine goL 3 [] [45,15,6,11,12,14,43,44] .n ⟨(by omega),?_⟩
    intro a w hs;replace hs:=hs.rerow .z (m':=(j+1)) (xs':=(((ra.l.take (j+1)).map (zRm c.curve (zAp ra rb t).1 (zAp ra rb t).2.1 rb.l)).flatMap zBk)) (rfl) (by rw [← zCj (by omega),List.flatMap_append,zQ9 ⟨by assumption,BitVec.eq_of_toNat_eq (by omega)⟩];rfl)
    replace hs:=hs.drop (.c (.s (.s (.s .z))) (.c (.s (.s .z)) (.c (.s .z) .n)))
    replace hs:=hs.reorder (.c .z (.c (.s .z) (.c (.s .z) (.c .z (.c .z .n)))))
    refine ⟨_,?_,(j+1),v15,rfl,hs.sub (.c rfl (.c rfl (.c rfl (.c rfl (.c rfl (.c rfl (.c rfl (.c rfl .n)))))))),by omega⟩
    omega
   refine go 3 [0] [89,87,6,11,12,14,43,44,45] (.c (.s (.s .z)) .n) ⟨rfl,λg16=>?_⟩
   intro a w hs;refine zBH (size:=6) (bytes:=48) hs rfl rfl (.s (.s (.s (.s (.s .z))))) (zAJ (m:=1) (size:=6) (hs.mem.del .z) rfl (by decide)) (by simp [Value.oneCell']) underlying31 (i:=Tryz.t43) rfl rfl rfl rfl rfl (by decide) (by omega) (by simp only [maxLen];omega) rfl ?_;intro v17
   refine cl (·.drop (.c (.s .z) .n)) ?_
   refine goL 3 [] [45,15,6,11,12,14,43,44] .n ⟨(by omega),?_⟩
   intro a w hs;replace hs:=hs.rerow .z (m':=(j+1)) (xs':=(((ra.l.take (j+1)).map (zRm c.curve (zAp ra rb t).1 (zAp ra rb t).2.1 rb.l)).flatMap zBk)) (rfl) (by rw [← zCj (by omega),List.flatMap_append,zMk (by first | exact zcv (by assumption) | exact zcw (by assumption))];rfl)
   replace hs:=hs.drop (.c (.s (.s (.s .z))) (.c (.s (.s .z)) (.c (.s .z) .n)))
   replace hs:=hs.reorder (.c .z (.c (.s .z) (.c (.s .z) (.c .z (.c .z .n)))))
   refine ⟨_,?_,(j+1),v17,rfl,hs.sub (.c rfl (.c rfl (.c rfl (.c rfl (.c rfl (.c rfl (.c rfl (.c rfl .n)))))))),by omega⟩
   omega
  rw [c_11] at hs
  revert a w hs
  refine go 10 [0] [89,87,6,11,12,14,43,44,45] (.c (.s .z) .n) ⟨rfl,λg18=>?_⟩
  intro a w hs;refine zBH (size:=6) (bytes:=48) hs rfl rfl (.s (.s (.s (.s (.s .z))))) (zAJ (m:=1) (size:=6) (hs.mem.del .z) rfl (by decide)) (by simp [Value.oneCell']) underlying31 (i:=Tryz.t43) rfl rfl rfl rfl rfl (by decide) (by omega) (by simp only [maxLen];omega) rfl ?_;intro v19
  refine cl (·.drop (.c (.s .z) .n)) ?_
  refine goL 3 [] [45,15,6,11,12,14,43,44] .n ⟨(by omega),?_⟩
  intro a w hs;replace hs:=hs.rerow .z (m':=(j+1)) (xs':=(((ra.l.take (j+1)).map (zRm c.curve (zAp ra rb t).1 (zAp ra rb t).2.1 rb.l)).flatMap zBk)) (rfl) (by rw [← zCj (by omega),List.flatMap_append,zMk (by first | exact zcv (by assumption) | exact zcw (by assumption))];rfl)
  replace hs:=hs.drop (.c (.s (.s (.s (.s .z)))) (.c (.s (.s .z)) (.c (.s .z) .n)))
  replace hs:=hs.reorder (.c .z (.c (.s .z) (.c (.s .z) (.c .z (.c .z .n)))))
  refine ⟨_,?_,(j+1),v19,rfl,hs.sub (.c rfl (.c rfl (.c rfl (.c rfl (.c rfl (.c rfl (.c rfl (.c rfl .n)))))))),by omega⟩
  omega
 refine go 3 [] [9,8] .n ?_
 refine cl (·.drop (.c (.s (.s (.s (.s .z)))) (.c (.s (.s (.s .z))) (.c (.s (.s .z)) (.c (.s .z) .n))))) ?_
 intro a w hs;replace hs:=hs.rerow .z (m':=(zDR c ra rb t).length) (xs':=((zDR c ra rb t).flatMap zBk)) (by rw [hLL,List.length_map];omega) (by rw [hLL,List.take_of_length_le (by omega)])
 exact zBO hs rfl rfl rfl ⟨_,by rw [hE0];rfl,rfl⟩
theorem zUD (c:zAS) (L:List RI) (v:Value) (t:Int) (ht : -9223372036854775808≤t∧t≤9223372036854775807) (w0:World) (hL:∀ x∈L,x.ok w0) (hb:Rd w0 [] v 3 L.length (L.flatMap snV)):Calls Tryz.prog 60 #[.agg #[zI c.ring,zI c.window,zI c.base,zI c.gain,zI c.least,zI c.most,zI c.slack,zI c.num,zI c.den,zI c.extra,.bool (c.curve)],.int .i64 t,v] w0 (Ret w0 [] λz N=>∃ v,z = .tuple #[v,nI ((zDf c L t).2)]∧N=[row v 43 6 (zDf c L t).1.length ((zDf c L t).1.flatMap zBk)]):=by
 have hle:=hb.le
 simp only [maxLen] at hle
 have hiv:=zbH hL
 refine zG (F0:=[(0,.agg #[zI c.ring,zI c.window,zI c.base,zI c.gain,zI c.least,zI c.most,zI c.slack,zI c.num,zI c.den,zI c.extra,.bool (c.curve)]),(1,zI t),(2,v)]) func60 rfl rfl rfl (.c (.c (.c .n))) (Mem.nil _) ?_
 refine go 5 [0,0] [13,12,3,1,2] .n (λg1=>⟨rfl,?_⟩)
 intro a w hs;refine zB (v:=nI (zFY c L)) hs (.c rfl (.c rfl .n)) call100 (zMy c L v _ (λx hx=>(hL x hx).to hs.mem) (hs.rd0 hb)) rfl ?_
 refine goL 3 [] [16,8,3,1,2] .n ?_
 refine ifG rfl (λc_2=>?_) (λc_2=>?_)
 ·
  refine go 3 [] [7,6] .n ?_
  have hE:=zY1 (t:=t) (by assumption:((zFY c L:Nat):Int)≠0)
  refine cl (·.drop (.c .z .n)) ?_
  refine cl (·.addNil 43 6) ?_
  intro a w hs;replace hs:=hs.rerow .z (m':=(zDf c L t).1.length) (xs':=((zDf c L t).1.flatMap zBk)) (by rw [hE];rfl) (by rw [hE];rfl)
  exact zBO hs rfl rfl rfl ⟨_,by rw [hE],rfl⟩
 have hc0:=zCt (by assumption)
 refine go 2 [] [20,19,3,1,2] .n ?_
 intro a w hs;refine zB (v:=.tuple #[zI ((zA7 L t).1),zI ((zA7 L t).2.1),nI ((zA7 L t).2.2)]) hs (.c rfl (.c rfl .n)) call101 (zV1 L hiv v t _ (hs.rd0 hb)) rfl ?_
 refine goL 10 [] [25,11,10,9,3,1,2] .n ?_
 refine ifG rfl (λc_3=>?_) (λc_3=>?_)
 ·
  refine go 3 [] [7,6] .n ?_
  have hE:=zXv hc0 (by assumption)
  refine cl (·.drop (.c .z .n)) ?_
  refine cl (·.addNil 43 6) ?_
  intro a w hs;replace hs:=hs.rerow .z (m':=(zDf c L t).1.length) (xs':=((zDf c L t).1.flatMap zBk)) (by rw [hE];rfl) (by rw [hE];rfl)
  exact zBO hs rfl rfl rfl ⟨_,by rw [hE],rfl⟩
 have hz1:=zCt (by assumption:(((zA7 L t).2.2:Nat):Int)=0)
 obtain ⟨hz2,i,hi,hi1,hi2,hi3,hi4⟩:=zOX hz1
 intro a w hs;have hz0:=hc0;rw [hi1] at hs
 replace hs:=hs.sub (F':=[(25,.bool (!(((((zA7 L t).2.2:Nat):Int):Int)==0))),(11,nI ((zA7 L t).2.2)),(10,zI ((zA7 L t).2.1)),(9,zI (i:Int)),(3,pt g1 0),(1,zI t),(2,v)]) (.c rfl (.c rfl (.c rfl (.c rfl (.c rfl (.c rfl (.c rfl .n)))))))
 revert a w hs
 refine go 3 [] [29,10,9,3,1,2] .n ?_
 refine ifG rfl (λc_4=>?_) (λc_4=>?_)
 ·
  refine go 0 [] [9,3,1,2] .n ?_
  intro a w hs
  refine zAQ [.p [] [0],.p [] [],.p [] [],.v [2,1] (.pointer (some (adr v (i*3)))),.v [3] (.agg #[zI ((L.getD i default).t),zI ((L.getD i default).tm),(L.getD i default).v]),.p [] [],.x [5,4,0] ⟨[],[],[],λvs5=>vs5 6 = .tuple #[(zFs (vs5 6)),nI (zDs c (L.getD i default) t)],λvs5=>[row (zFs (vs5 6)) 43 6 ((zC6 c (L.getD i default) t).length) ((zC6 c (L.getD i default) t).flatMap zBk)],none⟩,.x [] ⟨[],[],[6],λvs5=>vs5 7=(zFs (vs5 6)),λvs5=>[],none⟩,.y [] (nI (zDs c (L.getD i default) t)) [] [] [] λvs5=>[],.x [] ⟨[],[],[6],λvs5=>vs5 9=(zFs (vs5 6)),λvs5=>[],none⟩,.p [8] []] [10] hs .n .n (.c .z .n) (by kernel_rfl) ⟨rfl,λ_ _ _ _ hm hs K=>zBF (j:=i) hs rfl rfl (hm.rd0 hb) rfl (by omega) underlying37 sizeOf46 rfl (vk K),λ_ _ _ _ hm hs K=>zAx (cs:=snV (L.getD i default)) hs rfl (hm.rd0 hb) (zAZ zAm L i (by omega)) (by rw [zAN zAm];omega) (by omega) isAgg46 sizeOf46 rfl (vk K),⟨.n,by kernel_rfl,λ_=>rfl,rfl,rfl⟩,⟨?_,?_,?_,?_,trivial⟩,?_⟩
  ·
   intro a_ w_ R_ rest_ vs5 hm hs ht hx
   have hs0:=hs.bare
   refine zL hs (.c rfl (.c rfl (.c rfl .n))) call102 .n (zX4 c (L.getD i default) t ⟨by omega,by omega⟩ _ ((hL _ (zD1 (by omega))).to hm)) rfl ?_;clear hs;rintro _ _ a w ⟨v6,rfl,rfl⟩ hs
   exact wpList_nil ⟨rfl,_,_,hs0,(.c (.c (.c .r))),hs,rfl⟩
  ·
   intro a_ w_ R_ rest_ vs5 hm hs ht hx
   have t6:=ht 6 (zJ 11 _ (by kernel_rfl))
   have e6:_=some (vs5 6):=t6.val rfl
   rw [show vs5 6 = .tuple #[(zFs (vs5 6)),nI (zDs c (L.getD i default) t)] from t6.2.1] at e6
   replace hs:=hs.learn e6
   have hs0:=hs.bare
   refine zHI hs rfl .z rfl ?_;clear hs;intro a w hs
   exact wpList_nil ⟨rfl,_,_,hs0,(.c .r),hs,rfl⟩
  ·
   intro a_ w_ R_ rest_ vs5 hm hs ht hx
   have t6:=ht 6 (zJ 11 _ (by kernel_rfl))
   have e6:_=some (vs5 6):=t6.val rfl
   rw [show vs5 6 = .tuple #[(zFs (vs5 6)),nI (zDs c (L.getD i default) t)] from t6.2.1] at e6
   replace hs:=hs.learn e6
   have hs0:=hs.bare
   refine zHI hs rfl (.s .z) rfl ?_;clear hs;intro a w hs
   exact wpList_nil ⟨rfl,_,_,hs0,(.c .r),hs,rfl⟩
  ·
   intro a_ w_ R_ rest_ vs5 hm hs ht hx
   have t7:=ht 7 (zJ 11 _ (by kernel_rfl))
   have e7:_=some (vs5 7):=t7.val rfl
   rw [show vs5 7=(zFs (vs5 6)) from t7.2.1] at e7
   replace hs:=hs.learn e7
   have hs0:=hs.bare
   refine zEd hs rfl rfl ?_;clear hs;intro a w hs
   exact wpList_nil ⟨rfl,_,_,hs0,(.c .r),hs,rfl⟩
  clear hs w a;intro vs5 a w hs hf
  obtain ⟨e9,q9⟩:=hf 9 (by decide)
  replace e9:_=some (vs5 9):=e9.val rfl
  rw [show vs5 9=(zFs (vs5 6)) from q9] at e9
  replace hs:=hs.learn e9;clear e9 q9
  generalize zFs (vs5 6)=v7 at hs
  clear hf
  revert a w hs
  refine goE 0 [] [6,7] .n ?_
  refine cl (·.drop (.c .z .n)) ?_
  have hE:=zYn hz0 hz1 hi1 (by assumption)
  intro a w hs;exact zBO hs rfl rfl rfl ⟨_,by rw [hE],by rw [hE]⟩
 have hi5:(zA7 L t).2.1=((i+1:Nat):Int):=by rw [hi3];by_cases hq:i+1=L.length<;>simp only [hq,if_true,if_false] at hi3 ⊢ <;> omega
 have hi6:i+1<L.length:=by have:=hi3;split at this<;>omega
 intro a w hs;rw [hi5] at hs
 revert a w hs
 refine go 0 [] [10,9,3,1,2] .n ?_
 intro a w hs
 refine zAQ [.p [] [0],.p [] [],.p [] [],.v [2,1] (.pointer (some (adr v (i*3)))),.v [3] (.agg #[zI ((L.getD i default).t),zI ((L.getD i default).tm),(L.getD i default).v]),.p [] [],.p [] [],.v [6,5] (.pointer (some (adr v ((i+1)*3)))),.v [7] (.agg #[zI ((L.getD (i+1) default).t),zI ((L.getD (i+1) default).tm),(L.getD (i+1) default).v]),.p [] [],.x [9,8,4,0] ⟨[],[],[],λvs8=>vs8 10 = .tuple #[(zFs (vs8 10)),nI (zDT c (L.getD i default) (L.getD (i+1) default) t)],λvs8=>[row (zFs (vs8 10)) 43 6 ((zDR c (L.getD i default) (L.getD (i+1) default) t).length) ((zDR c (L.getD i default) (L.getD (i+1) default) t).flatMap zBk)],none⟩,.x [] ⟨[],[],[10],λvs8=>vs8 11=(zFs (vs8 10)),λvs8=>[],none⟩,.y [] (nI (zDT c (L.getD i default) (L.getD (i+1) default) t)) [] [] [] λvs8=>[],.x [] ⟨[],[],[10],λvs8=>vs8 13=(zFs (vs8 10)),λvs8=>[],none⟩,.p [12] []] [14] hs .n .n (.c .z .n) (by kernel_rfl) ⟨rfl,λ_ _ _ _ hm hs K=>zBF (j:=i) hs rfl rfl (hm.rd0 hb) rfl (by omega) underlying37 sizeOf46 rfl (vk K),λ_ _ _ _ hm hs K=>zAx (cs:=snV (L.getD i default)) hs rfl (hm.rd0 hb) (zAZ zAm L i (by omega)) (by rw [zAN zAm];omega) (by omega) isAgg46 sizeOf46 rfl (vk K),λ_ _ _ _ hm hs K=>zBF (j:=(i+1)) hs rfl rfl (hm.rd0 hb) rfl (by omega) underlying37 sizeOf46 rfl (vk K),λ_ _ _ _ hm hs K=>zAx (cs:=snV (L.getD (i+1) default)) hs rfl (hm.rd0 hb) (zAZ zAm L (i+1) (by omega)) (by rw [zAN zAm];omega) (by omega) isAgg46 sizeOf46 rfl (vk K),⟨.n,by kernel_rfl,λ_=>rfl,rfl,rfl⟩,⟨?_,?_,?_,?_,trivial⟩,?_⟩
 ·
  intro a_ w_ R_ rest_ vs8 hm hs ht hx
  have hs0:=hs.bare
  refine zL hs (.c rfl (.c rfl (.c rfl (.c rfl .n)))) call103 .n (zZB c (L.getD i default) (L.getD (i+1) default) t _ ((hL _ (zD1 (by omega))).to hm) ((hL _ (zD1 (by omega))).to hm)) rfl ?_;clear hs;rintro _ _ a w ⟨v9,rfl,rfl⟩ hs
  exact wpList_nil ⟨rfl,_,_,hs0,(.c (.c (.c (.c .r)))),hs,rfl⟩
 ·
  intro a_ w_ R_ rest_ vs8 hm hs ht hx
  have t10:=ht 10 (zJ 15 _ (by kernel_rfl))
  have e10:_=some (vs8 10):=t10.val rfl
  rw [show vs8 10 = .tuple #[(zFs (vs8 10)),nI (zDT c (L.getD i default) (L.getD (i+1) default) t)] from t10.2.1] at e10
  replace hs:=hs.learn e10
  have hs0:=hs.bare
  refine zHI hs rfl .z rfl ?_;clear hs;intro a w hs
  exact wpList_nil ⟨rfl,_,_,hs0,(.c .r),hs,rfl⟩
 ·
  intro a_ w_ R_ rest_ vs8 hm hs ht hx
  have t10:=ht 10 (zJ 15 _ (by kernel_rfl))
  have e10:_=some (vs8 10):=t10.val rfl
  rw [show vs8 10 = .tuple #[(zFs (vs8 10)),nI (zDT c (L.getD i default) (L.getD (i+1) default) t)] from t10.2.1] at e10
  replace hs:=hs.learn e10
  have hs0:=hs.bare
  refine zHI hs rfl (.s .z) rfl ?_;clear hs;intro a w hs
  exact wpList_nil ⟨rfl,_,_,hs0,(.c .r),hs,rfl⟩
 ·
  intro a_ w_ R_ rest_ vs8 hm hs ht hx
  have t11:=ht 11 (zJ 15 _ (by kernel_rfl))
  have e11:_=some (vs8 11):=t11.val rfl
  rw [show vs8 11=(zFs (vs8 10)) from t11.2.1] at e11
  replace hs:=hs.learn e11
  have hs0:=hs.bare
  refine zEd hs rfl rfl ?_;clear hs;intro a w hs
  exact wpList_nil ⟨rfl,_,_,hs0,(.c .r),hs,rfl⟩
 clear hs w a;intro vs8 a w hs hf
 obtain ⟨e13,q13⟩:=hf 13 (by decide)
 replace e13:_=some (vs8 13):=e13.val rfl
 rw [show vs8 13=(zFs (vs8 10)) from q13] at e13
 replace hs:=hs.learn e13;clear e13 q13
 generalize zFs (vs8 10)=v10 at hs
 clear hf
 revert a w hs
 refine goE 0 [] [6,7] .n ?_
 refine cl (·.drop (.c .z .n)) ?_
 have hE:=zW9 hz0 hz1 hi1 hi5
 intro a w hs;exact zBO hs rfl rfl rfl ⟨_,by rw [hE],by rw [hE]⟩
end Go.Proofs.YtljpfgacpofkpaaGreat
