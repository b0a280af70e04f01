import Derived.Test.YtajjkegcfmhghaaGreatQG7
import Derived.Test.YtajjkegcfmhghaaGreatQG9
import Derived.Test.YtajjkegcfmhghaaGreatQG11
import Derived.Test.YtajjkegcfmhghaaGreatQG12
import Derived.Test.YtajjkegcfmhghaaGreatQWdel
import Derived.Test.YtajjkegcfmhghaaGreatQSxBasB
set_option linter.unusedVariables false
set_option linter.unusedSimpArgs false
namespace Go.Proofs.YtajjkegcfmhghaaGreat
open Tryz
open Go Go.Sx Go.RowKit
set_option maxRecDepth 4000
set_option maxHeartbeats 1000000
theorem zNj (c:zAG) (L:List RI) (v:Value) (w0:World) (hL:∀ x∈L,x.ok w0) (hb:Rd w0 [] v 3 L.length (L.flatMap snV)):Calls Tryz.prog 81 #[.agg #[zI c.ring,zI c.window,zI c.base,zI c.gain,zI c.least,zI c.most,zI c.slack,zI c.num,zI c.den,zI c.extra,.bool (c.curve)],v] w0 (zAf w0 (nI (zFz c L))):=by
 have hle:=hb.le
 simp only [maxLen] at hle
 refine zG (F0:=[(0,.agg #[zI c.ring,zI c.window,zI c.base,zI c.gain,zI c.least,zI c.most,zI c.slack,zI c.num,zI c.den,zI c.extra,.bool (c.curve)]),(1,v)]) func81 rfl rfl rfl (.c (.c .n)) (Mem.nil _) ?_
 refine go 3 [0,0] [9,1] .n (λg1=>⟨rfl,?_⟩)
 intro a w hs;refine zB (v:=nI (zCm c)) hs (.c rfl .n) call72 (zNl c _) rfl ?_
 refine goL 3 [] [12,5,1] .n ?_
 refine ifG rfl (λc_2=>?_) (λc_2=>?_)
 ·
  refine go 2 [] [4] .n ?_
  refine cl (·.drop (.c .z .n)) ?_
  intro a w hs;exact fin hs rfl rfl ⟨congrArg (λn:Nat=>Value.int .i64 (n:Int)) (zbb (by assumption)),rfl⟩
 refine go 1 [] [14] .n ?_
 intro a w hs;refine zAC hs rfl (hs.rd0 hb).isSl underlying37 rfl ?_
 refine goL 1 [] [16,15,14] .n ?_
 refine cl (·.drop (.c .z .n)) ?_
 intro a w hs;refine zCU (λmm_ a w=>∃ j:Nat,mm_=L.length-j∧St 26 [(14,v),(15,nI L.length),(16,zI (j:Int))] w0 [] [] a w∧j≤L.length∧zEt (L.drop j)=zEt L) ⟨0,rfl,hs.sub (.c rfl (.c rfl (.c rfl .n))),by omega,rfl⟩ ?_
 clear hs w a;rintro mm_ a w ⟨j,rfl,hs,hI1_0,hI1_1⟩
 revert a w hs
 refine go 1 [] [17,14,15,16] .n ?_
 refine ifG rfl (λc_3=>?_) (λc_3=>?_)
 ·
  refine go 0 [] [14,15,16] .n ?_
  intro a w hs;refine zBm (j:=j) hs rfl rfl (hs.rd0 hb) rfl (by omega) underlying37 sizeOf46 rfl ?_
  intro a w hs;refine zA9 (cs:=snV (L.getD j default)) hs rfl (hs.rd0 hb) (zAh zCI L j (by omega)) (by rw [zAX zCI];omega) (by omega) isAgg46 sizeOf46 rfl ?_
  have ho1:=(hL _ (zGB (l:=L) (i:=j) (by omega))).t;have ho2:=(hL _ (zGB (l:=L) (i:=j) (by omega))).tm
  refine goL 3 [50,0] [20,14,15,16] .n (λg4=>⟨rfl,(zJ rfl (zJ rfl (zJ (hL _ (zGB (by omega))).rd.isSl.one zAe))),rfl,?_⟩)
  intro a w hs;refine zB (v:=nI (zV ((L.getD j default).t) ((L.getD j default).tm) ((L.getD j default).l))) hs (.c rfl .n) call78 (zJT ((L.getD j default).t) ((L.getD j default).tm) _ ((L.getD j default).l) _ (by omega) (by omega) (hs.rd0 (hL _ (zGB (by omega))).rd)) rfl ?_
  refine goL 3 [] [23,8,14,15,16] .n ?_
  refine ifG rfl (λc_5=>?_) (λc_5=>?_)
  ·
   refine go 2 [] [4] .n ?_
   refine cl (·.drop (.c .z .n)) ?_
   intro a w hs;exact fin hs rfl rfl ⟨congrArg (λn:Nat=>Value.int .i64 (n:Int)) (zXN (by omega) (zSa (by omega) hI1_1 (by assumption))),rfl⟩
  refine go 2 [] [16,14,15] .n ⟨(by omega),?_⟩
  refine cl (·.drop (.c .z .n)) ?_
  intro a w hs;refine ⟨_,?_,j+1,rfl,hs.sub (.c rfl (.c rfl (.c rfl .n))),by omega,zQb (by omega) hI1_1 (by assumption)⟩
  omega
 refine go 1 [] [4] .n ?_
 intro a w hs;exact fin hs rfl rfl ⟨congrArg (λn:Nat=>Value.int .i64 (n:Int)) (zXN (by omega) (zRV (by omega) hI1_1)),rfl⟩
theorem zMu (x:zS) (w0:World):Calls Tryz.prog 122 #[.agg #[zI x.id,zI x.p0,zI x.p1,zI x.p2,zI x.v0,zI x.v1,zI x.v2,.int .u16 (((x.a).toNat:Nat):Int),bI x.g]] w0 (zAf w0 (.agg #[zI ((zCN x).id),zI ((zCN x).p0),zI ((zCN x).p1),zI ((zCN x).p2),.int .u16 ((((zCN x).a).toNat:Nat):Int),zI ((zCN x).m)])):=by
 refine zG (F0:=[(0,.agg #[zI x.id,zI x.p0,zI x.p1,zI x.p2,zI x.v0,zI x.v1,zI x.v2,.int .u16 (((x.a).toNat:Nat):Int),bI x.g])]) func122 rfl rfl rfl (.c .n) (Mem.nil _) ?_
 refine go 10 [0,1,1,1,0] [2] .n (λg1=>λg2=>⟨rfl,rfl,rfl,rfl,?_⟩)
 intro a w hs;exact zM6 hs rfl rfl .z (.z (.c (.c (.c (.c (.c (.c .n))))))) isAgg43 sizeOf43 (.c (.s .z) (.c .z .n)) ⟨rfl,rfl⟩
theorem zbo  (w0:World):Calls Tryz.prog 255 #[.agg #[]] w0 (zAf w0 (zI 1)):=by
 refine zG (F0:=[(0,.agg #[])]) func255 rfl rfl rfl (.c .n) (Mem.nil _) ?_
 refine go 3 [0] [2] .n (λg1=>?_)
 refine cl (·.drop (.c .z .n)) ?_
 intro a w hs;exact fin hs rfl rfl ⟨rfl,rfl⟩
theorem zbi  (w0:World):Calls Tryz.prog 248 #[.agg #[]] w0 (zAf w0 (zI 2)):=by
 refine zG (F0:=[(0,.agg #[])]) func248 rfl rfl rfl (.c .n) (Mem.nil _) ?_
 refine go 3 [0] [2] .n (λg1=>?_)
 refine cl (·.drop (.c .z .n)) ?_
 intro a w hs;exact fin hs rfl rfl ⟨rfl,rfl⟩
theorem zbM (x y:zS) (n d:Int) (hx:x.wf) (hy:y.wf) (w0:World):Calls Tryz.prog 256 #[.agg #[],.agg #[zI x.id,zI x.p0,zI x.p1,zI x.p2,zI x.v0,zI x.v1,zI x.v2,.int .u16 (((x.a).toNat:Nat):Int),bI x.g],.agg #[zI y.id,zI y.p0,zI y.p1,zI y.p2,zI y.v0,zI y.v1,zI y.v2,.int .u16 (((y.a).toNat:Nat):Int),bI y.g],zI n,zI d] w0 (zAf w0 (.agg #[zI (pL n d x.p0 y.p0),zI (pL n d x.p1 y.p1),zI (pL n d x.p2 y.p2)])):=by
 have hxp0:=hx.p0;have hxp1:=hx.p1;have hxp2:=hx.p2;have hxv0:=hx.v0;have hxv1:=hx.v1;have hxv2:=hx.v2;have hyp0:=hy.p0;have hyp1:=hy.p1;have hyp2:=hy.p2;have hyv0:=hy.v0;have hyv1:=hy.v1;have hyv2:=hy.v2
 refine zG (F0:=[(0,.agg #[]),(1,.agg #[zI x.id,zI x.p0,zI x.p1,zI x.p2,zI x.v0,zI x.v1,zI x.v2,.int .u16 (((x.a).toNat:Nat):Int),bI x.g]),(2,.agg #[zI y.id,zI y.p0,zI y.p1,zI y.p2,zI y.v0,zI y.v1,zI y.v2,.int .u16 (((y.a).toNat:Nat):Int),bI y.g]),(3,zI n),(4,zI d)]) func256 rfl rfl rfl (.c (.c (.c (.c (.c .n))))) (Mem.nil _) ?_
 refine go 10 [0,0,0,2,1] [19,18,17,15,10] .n (λg1=>λg2=>λg3=>λg4=>⟨rfl,rfl,?_⟩)
 intro a w hs;refine zB (v:=.tuple #[.agg #[zI (bif zBq n d==0 then zDF x.p0 y.p0 n d else 0),zI (bif zBq n d==0 then zDF x.p1 y.p1 n d else 0),zI (bif zBq n d==0 then zDF x.p2 y.p2 n d else 0)],nI (zBq n d)]) hs (.c rfl (.c rfl (.c rfl (.c rfl .n)))) call257 (zUt x.p0 x.p1 x.p2 y.p0 y.p1 y.p2 n d (by omega) (by omega) (by omega) (by omega) (by omega) (by omega) _) rfl ?_
 refine goL 8 [0,0,1] [10] (.c .z .n) (λg5=>⟨rfl,rfl,rfl,?_⟩)
 intro a w hs;exact zM6 hs rfl rfl (.s .z) (.z (.c (.c (.c .n)))) isAgg40 sizeOf40 (.c (.s (.s (.s (.s .z)))) (.c (.s (.s (.s .z))) (.c (.s (.s .z)) (.c (.s .z) (.c .z .n))))) ⟨rfl,rfl⟩
theorem zcD (x y:zS) (n d:Int) (hx:x.wf) (hy:y.wf) (w0:World):Calls Tryz.prog 249 #[.agg #[],.agg #[zI x.id,zI x.p0,zI x.p1,zI x.p2,zI x.v0,zI x.v1,zI x.v2,.int .u16 (((x.a).toNat:Nat):Int),bI x.g],.agg #[zI y.id,zI y.p0,zI y.p1,zI y.p2,zI y.v0,zI y.v1,zI y.v2,.int .u16 (((y.a).toNat:Nat):Int),bI y.g],zI n,zI d] w0 (zAf w0 (.agg #[zI (pC n d x.p0 x.v0 y.p0 y.v0),zI (pC n d x.p1 x.v1 y.p1 y.v1),zI (pC n d x.p2 x.v2 y.p2 y.v2)])):=by
 have hxp0:=hx.p0;have hxp1:=hx.p1;have hxp2:=hx.p2;have hxv0:=hx.v0;have hxv1:=hx.v1;have hxv2:=hx.v2;have hyp0:=hy.p0;have hyp1:=hy.p1;have hyp2:=hy.p2;have hyv0:=hy.v0;have hyv1:=hy.v1;have hyv2:=hy.v2
 refine zG (F0:=[(0,.agg #[]),(1,.agg #[zI x.id,zI x.p0,zI x.p1,zI x.p2,zI x.v0,zI x.v1,zI x.v2,.int .u16 (((x.a).toNat:Nat):Int),bI x.g]),(2,.agg #[zI y.id,zI y.p0,zI y.p1,zI y.p2,zI y.v0,zI y.v1,zI y.v2,.int .u16 (((y.a).toNat:Nat):Int),bI y.g]),(3,zI n),(4,zI d)]) func249 rfl rfl rfl (.c (.c (.c (.c (.c .n))))) (Mem.nil _) ?_
 refine go 14 [0,0,0,2,2,1,1] [23,22,21,19,17,15,10] .n (λg1=>λg2=>λg3=>λg4=>⟨rfl,rfl,rfl,rfl,?_⟩)
 intro a w hs;refine zB (v:=.tuple #[.agg #[zI (bif zBq n d==0 then cAt x.p0 x.v0 y.p0 y.v0 n d else 0),zI (bif zBq n d==0 then cAt x.p1 x.v1 y.p1 y.v1 n d else 0),zI (bif zBq n d==0 then cAt x.p2 x.v2 y.p2 y.v2 n d else 0)],nI (zBq n d)]) hs (.c rfl (.c rfl (.c rfl (.c rfl (.c rfl (.c rfl .n)))))) call250 (zZ6 x.p0 x.p1 x.p2 x.v0 x.v1 x.v2 y.p0 y.p1 y.p2 y.v0 y.v1 y.v2 n d (by omega) (by omega) (by omega) (by omega) (by omega) (by omega) (by omega) (by omega) (by omega) (by omega) (by omega) (by omega) _) rfl ?_
 refine goL 8 [0,0,1] [10] (.c .z .n) (λg5=>⟨rfl,rfl,rfl,?_⟩)
 intro a w hs;exact zM6 hs rfl rfl (.s .z) (.z (.c (.c (.c .n)))) isAgg40 sizeOf40 (.c (.s (.s (.s (.s .z)))) (.c (.s (.s (.s .z))) (.c (.s (.s .z)) (.c (.s .z) (.c .z .n))))) ⟨rfl,rfl⟩
theorem za5 (c:zAG) (w0:World):Calls Tryz.prog 125 #[.agg #[zI c.ring,zI c.window,zI c.base,zI c.gain,zI c.least,zI c.most,zI c.slack,zI c.num,zI c.den,zI c.extra,.bool (c.curve)]] w0 (zAf w0 (.iface (bif c.curve then 271 else 272) (.agg #[]))):=by
 refine zG (F0:=[(0,.agg #[zI c.ring,zI c.window,zI c.base,zI c.gain,zI c.least,zI c.most,zI c.slack,zI c.num,zI c.den,zI c.extra,.bool (c.curve)])]) func125 rfl rfl rfl (.c .n) (Mem.nil _) ?_
 refine go 4 [0,0] [4] .n (λg1=>⟨rfl,?_⟩)
 refine ifG rfl (λc_2=>?_) (λc_2=>?_)
 ·
  refine go 1 [] [5] .n ?_
  intro a w hs;refine zXM hs rfl (λ_=>by kernel_rfl) rfl ?_
  refine goL 1 [] [2] .n ?_
  refine cl (·.drop (.c .z .n)) ?_
  intro a w hs;exact fin hs rfl rfl ⟨by rw [show c.curve=true by assumption];rfl,rfl⟩
 refine go 1 [] [7] .n ?_
 intro a w hs;refine zXM hs rfl (λ_=>by kernel_rfl) rfl ?_
 refine goL 1 [] [2] .n ?_
 refine cl (·.drop (.c .z .n)) ?_
 intro a w hs;exact fin hs rfl rfl ⟨by rw [show c.curve=false by assumption];rfl,rfl⟩
theorem zSU (b:Bool) (f g:FuncId) (h:∀ args w,(callFunc f args).run Tryz.prog w = .ok (.enter f args) w) (h2:∀ args w,(callFunc g args).run Tryz.prog w = .ok (.enter g args) w):∀ args w,(callFunc (bif b then f else g) args).run Tryz.prog w = .ok (.enter (bif b then f else g) args) w:=by cases b<;>assumption
theorem zYs (c:zAG):∀ w,(method (Tryz.prog.types.size+Made.depth) (bif c.curve then 271 else 272) (.agg #[]) "afterimage/pose.mode").run Tryz.prog w = .ok ((bif c.curve then 248 else 255),.agg #[]) w:=by
 intro w;cases c.curve<;>kernel_rfl
theorem zVd (c:zAG):∀ w,(method (Tryz.prog.types.size+Made.depth) (bif c.curve then 271 else 272) (.agg #[]) "afterimage/pose.place").run Tryz.prog w = .ok ((bif c.curve then 249 else 256),.agg #[]) w:=by
 intro w;cases c.curve<;>kernel_rfl
theorem zcb (c:zAG) (w0:World):Calls Tryz.prog (bif c.curve then 248 else 255) #[.agg #[]] w0 (zAf w0 (zI (bif c.curve then 2 else 1))):=by
 cases c.curve
 · exact zbo w0
 · exact zbi w0
theorem zco (c:zAG) (x y:zS) (n d:Int) (hx:x.wf) (hy:y.wf) (w0:World):Calls Tryz.prog (bif c.curve then 249 else 256) #[.agg #[],.agg #[zI x.id,zI x.p0,zI x.p1,zI x.p2,zI x.v0,zI x.v1,zI x.v2,.int .u16 (((x.a).toNat:Nat):Int),bI x.g],.agg #[zI y.id,zI y.p0,zI y.p1,zI y.p2,zI y.v0,zI y.v1,zI y.v2,.int .u16 (((y.a).toNat:Nat):Int),bI y.g],zI n,zI d] w0 (zAf w0 (.agg #[zI (pW c.curve n d x.p0 x.v0 y.p0 y.v0),zI (pW c.curve n d x.p1 x.v1 y.p1 y.v1),zI (pW c.curve n d x.p2 x.v2 y.p2 y.v2)])):=by
 cases c.curve
 · exact zbM x y n d hx hy w0
 · exact zcD x y n d hx hy w0
theorem zYA (c:zAG) (ra:RI) (t:Int) (ht : -9223372036854775808≤t∧t≤9223372036854775807) (w0:World) (hra:ra.ok w0):Calls Tryz.prog 83 #[.agg #[zI c.ring,zI c.window,zI c.base,zI c.gain,zI c.least,zI c.most,zI c.slack,zI c.num,zI c.den,zI c.extra,.bool (c.curve)],.agg #[zI ra.t,zI ra.tm,ra.v],.int .i64 t] w0 (Ret w0 [] λz N=>∃ v,z = .tuple #[v,nI (zEb c ra t)]∧N=[row v 43 6 (zDu c ra t).length ((zDu c ra t).flatMap zA5)]):=by
 have hat:=hra.tm;have hat2:=hra.t;have hle:=hra.rd.le
 simp only [maxLen] at hle
 refine zG (F0:=[(0,.agg #[zI c.ring,zI c.window,zI c.base,zI c.gain,zI c.least,zI c.most,zI c.slack,zI c.num,zI c.den,zI c.extra,.bool (c.curve)]),(1,.agg #[zI ra.t,zI ra.tm,ra.v]),(2,zI t)]) func83 rfl rfl rfl (.c (.c (.c .n))) (Mem.nil _) ?_
 refine go 7 [0,0,1,0] [18,16,4,3,2] .n (λg1=>λg2=>⟨rfl,rfl,λg3=>?_⟩)
 intro a w hs;refine zB (v:=nI (zFz c ([ra]))) hs (.c rfl (.c rfl .n)) call81 (zNj c ([ra]) (.slice (some ⟨g3,0,none⟩) 1 1) _ (zbj ((hra).to hs.mem)) (zAJ (m:=1) (size:=3) (hs.mem.del .z) rfl (by decide))) rfl ?_
 refine goL 3 [] [21,8,4,3,2] .n ?_
 refine ifG rfl (λc_4=>?_) (λc_4=>?_)
 ·
  refine go 3 [] [7,6] .n ?_
  have hE:zEb c ra t=zFz c ([ra]):=zaq (by assumption)
  have hS:(zDu c ra t)=[]:=zSw (by rw [hE];assumption)
  refine cl (·.drop (.c (.s (.s .z)) (.c (.s .z) (.c .z .n)))) ?_
  refine cl (·.addNil 43 6) ?_
  intro a w hs;replace hs:=hs.rerow .z (m':=(zDu c ra t).length) (xs':=((zDu c ra t).flatMap zA5)) (by rw [hS];rfl) (by rw [hS];rfl)
  exact zBR hs rfl rfl rfl ⟨_,by rw [hE],rfl⟩
 have hc0:=zC9 (by assumption)
 have hck:=zGH (zQw hc0).1;have hlen:=zPc hc0 (List.mem_singleton.2 rfl)
 refine go 2 [0] [25,24,4,3] (.c (.s .z) .n) ⟨rfl,?_⟩
 intro a w hs;refine zB (v:=.tuple #[zI ((zIW ra t).1),nI ((zIW ra t).2)]) hs (.c rfl (.c rfl .n)) call121 (zYG ra hra.rd.isSl t ⟨by omega,by omega⟩ ⟨by omega,by omega⟩ _) rfl ?_
 refine goL 7 [] [30,10,9,4,3] .n ?_
 refine ifG rfl (λc_5=>?_) (λc_5=>?_)
 ·
  refine go 3 [] [7,6] .n ?_
  have hE:zEb c ra t=(zIW ra t).2:=zUF hc0
  have hS:(zDu c ra t)=[]:=zSw (by rw [hE];assumption)
  refine cl (·.drop (.c (.s (.s .z)) (.c (.s .z) (.c .z .n)))) ?_
  refine cl (·.addNil 43 6) ?_
  intro a w hs;replace hs:=hs.rerow .z (m':=(zDu c ra t).length) (xs':=((zDu c ra t).flatMap zA5)) (by rw [hS];rfl) (by rw [hS];rfl)
  exact zBR hs rfl rfl rfl ⟨_,by rw [hE],rfl⟩
 have hc2:=zC9 (by assumption)
 have hE0:zEb c ra t=0:=by rw [zUF hc0];exact hc2
 have hbr0:=zPm ra t
 refine goF 8 1 [] [11,9,4,3] .n ?_
 intro a w hs;refine zaz (λa w=>∃ m:Int,∃ k:Int,St 66 [(3,pt g1 0),(4,pt g2 0),(9,zI k),(11,zI m)] w0 [] [blk g2 [zI ra.t,zI ra.tm,ra.v] 46,blk g3 [zI ra.t,zI ra.tm,ra.v] 46,blk g1 [zI c.ring,zI c.window,zI c.base,zI c.gain,zI c.least,zI c.most,zI c.slack,zI c.num,zI c.den,zI c.extra,.bool (c.curve)] 23] a w∧m=zKZ c (zIW ra t).1∧k=zJb c (zIW ra t).1) ?_ ?_
 ·
  revert a w hs
  refine go 3 [] [32,11,9,4,3] .n ?_
  refine ifG rfl (λc_6=>?_) (λc_6=>?_)
  ·
   refine go 1 [] [11,9,4,3] .n ?_
   intro a w hs;exact ⟨0,((zIW ra t).1),hs.sub (.c rfl (.c rfl (.c rfl (.c rfl .n)))),by first | exact (zFf (by assumption)).1 | exact (zFi (by assumption) (by assumption)).1 | exact (zFV (by assumption) (by assumption)).1,by first | exact (zFf (by assumption)).2 | exact (zFi (by assumption) (by assumption)).2 | exact (zFV (by assumption) (by assumption)).2⟩
  refine go 5 [0] [35,11,9,4,3] (.c (.s (.s .z)) .n) ⟨rfl,?_⟩
  refine ifG rfl (λc_7=>?_) (λc_7=>?_)
  ·
   refine cl (·.sub (F':=[(4,pt g2 0),(3,pt g1 0)]) (.c rfl (.c rfl .n))) ?_
   intro a w hs
   refine zR [.p [] [],.p [0] [0],.p [] [],.p [1] []] [2,3] hs .n (.c .z .n) (by kernel_rfl) ⟨rfl,⟨rfl,by kernel_rfl,λ_=>rfl,rfl,rfl,trivial⟩,λ_=>rfl,?_⟩
   refine goE 0 [] [9,11,4,3] .n ?_
   refine cl (·.reorder (.c (.s .z) (.c (.s .z) (.c .z .n)))) ?_
   intro a w hs;exact ⟨4,c.extra,hs.sub (.c rfl (.c rfl (.c rfl (.c rfl .n)))),by first | exact (zFf (by assumption)).1 | exact (zFi (by assumption) (by assumption)).1 | exact (zFV (by assumption) (by assumption)).1,by first | exact (zFf (by assumption)).2 | exact (zFi (by assumption) (by assumption)).2 | exact (zFV (by assumption) (by assumption)).2⟩
  refine go 0 [] [11,9,4,3] .n ?_
  refine cl (·.reorder (.c (.s .z) (.c (.s .z) (.c .z .n)))) ?_
  intro a w hs;exact ⟨3,((zIW ra t).1),hs.sub (.c rfl (.c rfl (.c rfl (.c rfl .n)))),by first | exact (zFf (by assumption)).1 | exact (zFi (by assumption) (by assumption)).1 | exact (zFV (by assumption) (by assumption)).1,by first | exact (zFf (by assumption)).2 | exact (zFi (by assumption) (by assumption)).2 | exact (zFV (by assumption) (by assumption)).2⟩
 clear hs w a;rintro a w ⟨m,k,hs,hJ9,hJ10⟩
 have hmk:=And.intro hJ9 hJ10;have hkr : -9223372036854775808≤k∧k≤9223372036854775807:=by have hbr:=zPm ra t;have hq:=hmk.2;unfold zJb at hq;split at hq<;>(try split at hq)<;>omega
 have hLL:zDu c ra t=ra.l.map (za1 m k):=by rw [hmk.1,hmk.2];exact zZW hE0
 revert a w hs
 refine go 3 [0] [43,12,9,11] (.c .z .n) ⟨rfl,?_⟩
 intro a w hs;refine zAC hs rfl (hs.rd0 hra.rd).isSl underlying44 rfl ?_
 refine goL 1 [] [45,44,43,12,9,11] .n ?_
 refine cl (·.addNil 43 6) ?_
 refine cl (·.rerow .z (m':=0) (xs':=(((ra.l.take 0).map (za1 m k)).flatMap zA5)) (rfl) (rfl)) ?_
 intro a w hs;refine zCU (λmm_ a w=>∃ j:Nat,∃ u:Value,mm_=ra.l.length-j∧St 66 [(9,zI k),(11,zI m),(12,u),(43,ra.v),(44,nI ra.l.length),(45,zI (j:Int))] w0 [] [row u 43 6 j (((ra.l.take j).map (za1 m k)).flatMap zA5),blk g2 [zI ra.t,zI ra.tm,ra.v] 46,blk g3 [zI ra.t,zI ra.tm,ra.v] 46,blk g1 [zI c.ring,zI c.window,zI c.base,zI c.gain,zI c.least,zI c.most,zI c.slack,zI c.num,zI c.den,zI c.extra,.bool (c.curve)] 23] a w∧j≤ra.l.length) ⟨0,.slice none 0 0,rfl,hs.sub (.c rfl (.c rfl (.c rfl (.c rfl (.c rfl (.c rfl .n)))))),by omega⟩ ?_
 clear hs w a;rintro mm_ a w ⟨j,u,rfl,hs,hI1_0⟩
 revert a w hs
 refine go 1 [] [46,9,11,12,43,44,45] .n ?_
 refine ifG rfl (λc_11=>?_) (λc_11=>?_)
 ·
  refine go 0 [] [9,11,12,43,44,45] .n ?_
  intro a w hs;refine zBm (j:=j) hs rfl rfl (hs.rd0 hra.rd) rfl (by omega) underlying44 sizeOf48 rfl ?_
  intro a w hs;refine zA9 (cs:=zBJ (ra.l.getD j default)) hs rfl (hs.rd0 hra.rd) (zAh zBd ra.l j (by omega)) (by rw [zAX zBd];omega) (by omega) isAgg48 sizeOf48 rfl ?_
  have hex:=(hra.wf _ (zR3 (l:=ra.l) (i:=j) (by omega)));have hp0:=hex.p0;have hp1:=hex.p1;have hp2:=hex.p2;have hv0:=hex.v0;have hv1:=hex.v1;have hv2:=hex.v2
  refine goL 3 [0,0] [49,14,9,11,12,43,44,45] .n (λg12=>⟨rfl,rfl,?_⟩)
  intro a w hs;refine zB (v:=.agg #[zI ((zCN (ra.l.getD j default)).id),zI ((zCN (ra.l.getD j default)).p0),zI ((zCN (ra.l.getD j default)).p1),zI ((zCN (ra.l.getD j default)).p2),.int .u16 ((((zCN (ra.l.getD j default)).a).toNat:Nat):Int),zI ((zCN (ra.l.getD j default)).m)]) hs (.c rfl .n) call122 (zMu (ra.l.getD j default) _) rfl ?_
  refine goL 8 [0,1,1] [56,55,53,51,15,9,11,12,43,44,45] (.c .z .n) (λg13=>⟨rfl,rfl,rfl,?_⟩)
  intro a w hs;refine zB (v:=.agg #[zI (zDD ((ra.l.getD j default).p0) (zA0 ((ra.l.getD j default).v0) k)),zI (zDD ((ra.l.getD j default).p1) (zA0 ((ra.l.getD j default).v1) k)),zI (zDD ((ra.l.getD j default).p2) (zA0 ((ra.l.getD j default).v2) k))]) hs (.c rfl (.c rfl (.c rfl .n))) call123 (zbO ((ra.l.getD j default).p0) ((ra.l.getD j default).p1) ((ra.l.getD j default).p2) ((ra.l.getD j default).v0) ((ra.l.getD j default).v1) ((ra.l.getD j default).v2) k (by omega) (by omega) (by omega) (by omega) (by omega) (by omega) (by omega) _) rfl ?_
  refine goL 7 [0,0,0] [62,60,9,11,43,44,45] (.c .z .n) ⟨rfl,rfl,rfl,λg14=>?_⟩
  intro a w hs;refine zBI (size:=6) (bytes:=48) hs rfl rfl (.s (.s (.s .z))) (zAJ (m:=1) (size:=6) (hs.mem.del .z) rfl (by decide)) (by simp [Value.oneCell']) underlying31 (i:=Tryz.t43) rfl rfl rfl rfl rfl (by decide) (by omega) (by simp only [maxLen];omega) rfl ?_;intro v15
  refine cl (·.drop (.c (.s .z) .n)) ?_
  refine goL 3 [] [45,12,9,11,43,44] .n ⟨(by omega),?_⟩
  intro a w hs;replace hs:=hs.rerow .z (m':=(j+1)) (xs':=(((ra.l.take (j+1)).map (za1 m k)).flatMap zA5)) (rfl) (by rw [← zC0 (by omega),List.flatMap_append];rfl)
  replace hs:=hs.drop (.c (.s (.s .z)) (.c (.s .z) .n))
  refine ⟨_,?_,(j+1),v15,rfl,hs.sub (.c rfl (.c rfl (.c rfl (.c rfl (.c rfl (.c rfl .n)))))),by omega⟩
  omega
 refine go 3 [] [7,6] .n ?_
 refine cl (·.drop (.c (.s (.s (.s .z))) (.c (.s (.s .z)) (.c (.s .z) .n)))) ?_
 intro a w hs;replace hs:=hs.rerow .z (m':=(zDu c ra t).length) (xs':=((zDu c ra t).flatMap zA5)) (by rw [hLL,List.length_map];omega) (by rw [hLL,List.take_of_length_le (by omega)])
 exact zBR hs rfl rfl rfl ⟨_,by rw [hE0];rfl,rfl⟩
theorem zaH (c:zAG) (ra rb:RI) (t:Int) (w0:World) (hra:ra.ok w0) (hrb:rb.ok w0):Calls Tryz.prog 84 #[.agg #[zI c.ring,zI c.window,zI c.base,zI c.gain,zI c.least,zI c.most,zI c.slack,zI c.num,zI c.den,zI c.extra,.bool (c.curve)],.agg #[zI ra.t,zI ra.tm,ra.v],.agg #[zI rb.t,zI rb.tm,rb.v],.int .i64 t] w0 (Ret w0 [] λz N=>∃ v,z = .tuple #[v,nI (zEe c ra rb t)]∧N=[row v 43 6 (zD5 c ra rb t).length ((zD5 c ra rb t).flatMap zA5)]):=by
 have hat:=hra.tm;have hat2:=hra.t;have hbt:=hrb.tm;have hbt2:=hrb.t;have hle:=hra.rd.le;have hle2:=hrb.rd.le
 simp only [maxLen] at hle hle2
 refine zG (F0:=[(0,.agg #[zI c.ring,zI c.window,zI c.base,zI c.gain,zI c.least,zI c.most,zI c.slack,zI c.num,zI c.den,zI c.extra,.bool (c.curve)]),(1,.agg #[zI ra.t,zI ra.tm,ra.v]),(2,.agg #[zI rb.t,zI rb.tm,rb.v]),(3,zI t)]) func84 rfl rfl rfl (.c (.c (.c (.c .n)))) (Mem.nil _) ?_
 refine go 9 [0,0,0,2,1,0] [24,21,6,5,4,3] .n (λg1=>λg2=>λg3=>⟨rfl,rfl,rfl,λg4=>?_⟩)
 intro a w hs;refine zB (v:=nI (zFz c ([ra,rb]))) hs (.c rfl (.c rfl .n)) call81 (zNj c ([ra,rb]) (.slice (some ⟨g4,0,none⟩) 2 2) _ (zcf ((hra).to hs.mem) ((hrb).to hs.mem)) (zAJ (m:=2) (size:=3) (hs.mem.del .z) rfl (by decide))) rfl ?_
 refine goL 3 [] [27,10,6,5,4,3] .n ?_
 refine ifG rfl (λc_5=>?_) (λc_5=>?_)
 ·
  refine go 3 [] [9,8] .n ?_
  have hE:zEe c ra rb t=zFz c ([ra,rb]):=zab (by assumption)
  have hS:(zD5 c ra rb t)=[]:=zUB (by rw [hE];assumption)
  refine cl (·.drop (.c (.s (.s (.s .z))) (.c (.s (.s .z)) (.c (.s .z) (.c .z .n))))) ?_
  refine cl (·.addNil 43 6) ?_
  intro a w hs;replace hs:=hs.rerow .z (m':=(zD5 c ra rb t).length) (xs':=((zD5 c ra rb t).flatMap zA5)) (by rw [hS];rfl) (by rw [hS];rfl)
  exact zBR hs rfl rfl rfl ⟨_,by rw [hE],rfl⟩
 have hc0:=zC9 (by assumption)
 have hlen:=zPc hc0 (List.mem_cons_self)
 refine go 3 [0,1] [32,31,30,6,5,4] (.c (.s (.s .z)) (.c (.s .z) .n)) ⟨rfl,rfl,?_⟩
 intro a w hs;refine zB (v:=.tuple #[zI ((zAy ra rb t).1),zI ((zAy ra rb t).2.1),nI ((zAy ra rb t).2.2)]) hs (.c rfl (.c rfl (.c rfl .n))) call124 (zWG ra rb hra.rd.isSl hrb.rd.isSl t _) rfl ?_
 refine goL 9 [] [38,13,12,11,6,5,4] .n ?_
 refine ifG rfl (λc_6=>?_) (λc_6=>?_)
 ·
  refine go 3 [] [9,8] .n ?_
  have hE:zEe c ra rb t=(zAy ra rb t).2.2:=zTq hc0
  have hS:(zD5 c ra rb t)=[]:=zUB (by rw [hE];assumption)
  refine cl (·.drop (.c (.s (.s (.s .z))) (.c (.s (.s .z)) (.c (.s .z) (.c .z .n))))) ?_
  refine cl (·.addNil 43 6) ?_
  intro a w hs;replace hs:=hs.rerow .z (m':=(zD5 c ra rb t).length) (xs':=((zD5 c ra rb t).flatMap zA5)) (by rw [hS];rfl) (by rw [hS];rfl)
  exact zBR hs rfl rfl rfl ⟨_,by rw [hE],rfl⟩
 have hc2:=zC9 (by assumption)
 have hE0:zEe c ra rb t=0:=by rw [zTq hc0];exact hc2
 have hLL:=zZY hE0
 refine go 1 [0] [40,12,11,6,5] (.c (.s (.s (.s .z))) .n) ⟨rfl,?_⟩
 intro a w hs;refine zB (v:=.iface (bif c.curve then 271 else 272) (.agg #[])) hs (.c rfl .n) call125 (za5 c _) rfl ?_
 refine goL 4 [0] [43,15,14,12,11,6] (.c (.s .z) .n) ⟨rfl,?_⟩
 intro a w hs;refine zAC hs rfl (hs.rd0 hra.rd).isSl underlying44 rfl ?_
 refine goL 1 [] [45,44,43,15,14,12,11,6] .n ?_
 refine cl (·.addNil 43 6) ?_
 refine cl (·.rerow .z (m':=0) (xs':=(((ra.l.take 0).map (zUa c.curve (zAy ra rb t).1 (zAy ra rb t).2.1 rb.l)).flatMap zA5)) (rfl) (rfl)) ?_
 intro a w hs;refine zCU (λmm_ a w=>∃ j:Nat,∃ u:Value,mm_=ra.l.length-j∧St 93 [(6,pt g3 0),(11,zI ((zAy ra rb t).1)),(12,zI ((zAy ra rb t).2.1)),(14,.iface (bif c.curve then 271 else 272) (.agg #[])),(15,u),(43,ra.v),(44,nI ra.l.length),(45,zI (j:Int))] w0 [] [row u 43 6 j (((ra.l.take j).map (zUa c.curve (zAy ra rb t).1 (zAy ra rb t).2.1 rb.l)).flatMap zA5),blk g2 [zI ra.t,zI ra.tm,ra.v] 46,blk g1 [zI c.ring,zI c.window,zI c.base,zI c.gain,zI c.least,zI c.most,zI c.slack,zI c.num,zI c.den,zI c.extra,.bool (c.curve)] 23,blk g3 [zI rb.t,zI rb.tm,rb.v] 46,blk g4 [zI ra.t,zI ra.tm,ra.v,zI rb.t,zI rb.tm,rb.v] 46] a w∧j≤ra.l.length) ⟨0,.slice none 0 0,rfl,hs.sub (.c rfl (.c rfl (.c rfl (.c rfl (.c rfl (.c rfl (.c rfl (.c rfl .n)))))))),by omega⟩ ?_
 clear hs w a;rintro mm_ a w ⟨j,u,rfl,hs,hI1_0⟩
 revert a w hs
 refine go 1 [] [46,6,11,12,14,15,43,44,45] .n ?_
 refine ifG rfl (λc_7=>?_) (λc_7=>?_)
 ·
  refine go 0 [] [6,11,12,14,15,43,44,45] .n ?_
  intro a w hs;refine zBm (j:=j) hs rfl rfl (hs.rd0 hra.rd) rfl (by omega) underlying44 sizeOf48 rfl ?_
  intro a w hs;refine zA9 (cs:=zBJ (ra.l.getD j default)) hs rfl (hs.rd0 hra.rd) (zAh zBd ra.l j (by omega)) (by rw [zAX zBd];omega) (by omega) isAgg48 sizeOf48 rfl ?_
  have hex:=(hra.wf _ (zR3 (l:=ra.l) (i:=j) (by omega)));have hp0:=hex.p0;have hp1:=hex.p1;have hp2:=hex.p2;have hv0:=hex.v0;have hv1:=hex.v1;have hv2:=hex.v2
  refine goL 3 [0,0] [49,17,6,11,12,14,15,43,44,45] .n (λg8=>⟨rfl,rfl,?_⟩)
  intro a w hs;refine zB (v:=.agg #[zI ((zCN (ra.l.getD j default)).id),zI ((zCN (ra.l.getD j default)).p0),zI ((zCN (ra.l.getD j default)).p1),zI ((zCN (ra.l.getD j default)).p2),.int .u16 ((((zCN (ra.l.getD j default)).a).toNat:Nat):Int),zI ((zCN (ra.l.getD j default)).m)]) hs (.c rfl .n) call122 (zMu (ra.l.getD j default) _) rfl ?_
  refine goL 5 [0,1,2] [54,52,18,17,6,11,12,14,15,43,44,45] (.c (.s (.s (.s (.s .z)))) (.c .z .n)) (λg9=>⟨rfl,rfl,rfl,?_⟩)
  intro a w hs;refine zB (v:=.tuple #[.agg #[zI (((zA2 ((ra.l.getD j default).id) rb.l).getD zDS).id),zI (((zA2 ((ra.l.getD j default).id) rb.l).getD zDS).p0),zI (((zA2 ((ra.l.getD j default).id) rb.l).getD zDS).p1),zI (((zA2 ((ra.l.getD j default).id) rb.l).getD zDS).p2),zI (((zA2 ((ra.l.getD j default).id) rb.l).getD zDS).v0),zI (((zA2 ((ra.l.getD j default).id) rb.l).getD zDS).v1),zI (((zA2 ((ra.l.getD j default).id) rb.l).getD zDS).v2),.int .u16 (((((zA2 ((ra.l.getD j default).id) rb.l).getD zDS).a).toNat:Nat):Int),bI (((zA2 ((ra.l.getD j default).id) rb.l).getD zDS).g)],.bool ((zA2 ((ra.l.getD j default).id) rb.l).isSome)]) hs (.c rfl (.c rfl .n)) call11 (zZl rb.t rb.tm _ rb.l ((ra.l.getD j default).id) _ (hs.rd0 hrb.rd)) rfl ?_
  refine goL 8 [0] [59,19,18,17,6,11,12,14,15,43,44,45] .n (λg10=>⟨rfl,?_⟩)
  intro a w hs;refine zY (b:=(zA2 ((ra.l.getD j default).id) rb.l).isSome) (λc_11=>?_) (λc_11=>?_)
  ·
   rw [c_11] at hs
   revert a w hs
   refine go 6 [0,1] [65,19,18,17,6,11,12,14,15,43,44,45] (.c .z (.c (.s (.s .z)) .n)) ⟨rfl,rfl,?_⟩
   refine ifG rfl (λc_12=>?_) (λc_12=>?_)
   ·
    refine go 0 [] [19,18,17,6,11,12,14,15,43,44,45] .n ?_
    intro a w hs
    refine zR [.p [] [],.v [0] (zI (bif c.curve then 2 else 1)),.p [] [],.p [] [0],.p [] [1],.p [] [],.p [] [],.v [6,5,4,3,2] (.agg #[zI (pW c.curve ((zAy ra rb t).1) ((zAy ra rb t).2.1) (ra.l.getD j default).p0 (ra.l.getD j default).v0 ((zA2 ((ra.l.getD j default).id) rb.l).getD zDS).p0 ((zA2 ((ra.l.getD j default).id) rb.l).getD zDS).v0),zI (pW c.curve ((zAy ra rb t).1) ((zAy ra rb t).2.1) (ra.l.getD j default).p1 (ra.l.getD j default).v1 ((zA2 ((ra.l.getD j default).id) rb.l).getD zDS).p1 ((zA2 ((ra.l.getD j default).id) rb.l).getD zDS).v1),zI (pW c.curve ((zAy ra rb t).1) ((zAy ra rb t).2.1) (ra.l.getD j default).p2 (ra.l.getD j default).v2 ((zA2 ((ra.l.getD j default).id) rb.l).getD zDS).p2 ((zA2 ((ra.l.getD j default).id) rb.l).getD zDS).v2)]),.p [] [],.s [8,1] [0] [0] [],.p [] [],.s [10,7] [0] [] [9]] [] hs (.c (.s (.s .z)) .n) (.c (.s .z) (.c .z .n)) (by kernel_rfl) ⟨λ_ _ _ _ hm hs K=>zMm (v:=zI (bif c.curve then 2 else 1)) hs rfl .n (zYs c) (zSU c.curve 248 255 call248 call255) (zcb c _) rfl (vk K),rfl,rfl,λ_ _ _ _ hm hs K=>zMm (v:=.agg #[zI (pW c.curve ((zAy ra rb t).1) ((zAy ra rb t).2.1) (ra.l.getD j default).p0 (ra.l.getD j default).v0 ((zA2 ((ra.l.getD j default).id) rb.l).getD zDS).p0 ((zA2 ((ra.l.getD j default).id) rb.l).getD zDS).v0),zI (pW c.curve ((zAy ra rb t).1) ((zAy ra rb t).2.1) (ra.l.getD j default).p1 (ra.l.getD j default).v1 ((zA2 ((ra.l.getD j default).id) rb.l).getD zDS).p1 ((zA2 ((ra.l.getD j default).id) rb.l).getD zDS).v1),zI (pW c.curve ((zAy ra rb t).1) ((zAy ra rb t).2.1) (ra.l.getD j default).p2 (ra.l.getD j default).v2 ((zA2 ((ra.l.getD j default).id) rb.l).getD zDS).p2 ((zA2 ((ra.l.getD j default).id) rb.l).getD zDS).v2)]) hs rfl (.c rfl (.c rfl (.c rfl (.c rfl .n)))) (zVd c) (zSU c.curve 249 256 call249 call256) (zco c (ra.l.getD j default) ((zA2 ((ra.l.getD j default).id) rb.l).getD zDS) ((zAy ra rb t).1) ((zAy ra rb t).2.1) (hra.wf _ (zR3 (by omega))) (zY5 hrb.wf) _) rfl (vk K),rfl,rfl,⟨rfl,by kernel_rfl,λ_=>rfl,rfl,rfl,trivial⟩,λ_=>rfl,?_⟩
    refine goE 6 [0,1] [82,81,80,78,18,6,11,12,14,15,43,44,45] (.c (.s .z) (.c .z .n)) ⟨rfl,rfl,?_⟩
    intro a w hs;refine zB (v:=.tuple #[.int .u16 (((bif zBq ((zAy ra rb t).1) ((zAy ra rb t).2.1)==0 then zaX ((ra.l.getD j default).a) (((zA2 ((ra.l.getD j default).id) rb.l).getD zDS).a) ((zAy ra rb t).1) ((zAy ra rb t).2.1) else 0#16).toNat:Nat):Int),nI (zBq ((zAy ra rb t).1) ((zAy ra rb t).2.1))]) hs (.c rfl (.c rfl (.c rfl (.c rfl .n)))) call126 (zWf ((ra.l.getD j default).a) (((zA2 ((ra.l.getD j default).id) rb.l).getD zDS).a) ((zAy ra rb t).1) ((zAy ra rb t).2.1) _) rfl ?_
    refine goL 8 [0,0] [89,87,6,11,12,14,43,44,45] (.c (.s (.s (.s (.s (.s (.s (.s .z))))))) .n) ⟨rfl,rfl,λg14=>?_⟩
    intro a w hs;refine zBI (size:=6) (bytes:=48) hs rfl rfl (.s (.s (.s (.s (.s .z))))) (zAJ (m:=1) (size:=6) (hs.mem.del .z) rfl (by decide)) (by simp [Value.oneCell']) underlying31 (i:=Tryz.t43) rfl rfl rfl rfl rfl (by decide) (by omega) (by simp only [maxLen];omega) rfl ?_;intro v15
    refine cl (·.drop (.c (.s .z) .n)) ?_
    refine goL 3 [] [45,15,6,11,12,14,43,44] .n ⟨(by omega),?_⟩
    intro a w hs;replace hs:=hs.rerow .z (m':=(j+1)) (xs':=(((ra.l.take (j+1)).map (zUa c.curve (zAy ra rb t).1 (zAy ra rb t).2.1 rb.l)).flatMap zA5)) (rfl) (by rw [← zC0 (by omega),List.flatMap_append,zaR ⟨by assumption,BitVec.eq_of_toNat_eq (by omega)⟩];rfl)
    replace hs:=hs.drop (.c (.s (.s (.s .z))) (.c (.s (.s .z)) (.c (.s .z) .n)))
    replace hs:=hs.reorder (.c .z (.c (.s .z) (.c (.s .z) (.c .z (.c .z .n)))))
    refine ⟨_,?_,(j+1),v15,rfl,hs.sub (.c rfl (.c rfl (.c rfl (.c rfl (.c rfl (.c rfl (.c rfl (.c rfl .n)))))))),by omega⟩
    omega
   refine go 3 [0] [89,87,6,11,12,14,43,44,45] (.c (.s (.s .z)) .n) ⟨rfl,λg16=>?_⟩
   intro a w hs;refine zBI (size:=6) (bytes:=48) hs rfl rfl (.s (.s (.s (.s (.s .z))))) (zAJ (m:=1) (size:=6) (hs.mem.del .z) rfl (by decide)) (by simp [Value.oneCell']) underlying31 (i:=Tryz.t43) rfl rfl rfl rfl rfl (by decide) (by omega) (by simp only [maxLen];omega) rfl ?_;intro v17
   refine cl (·.drop (.c (.s .z) .n)) ?_
   refine goL 3 [] [45,15,6,11,12,14,43,44] .n ⟨(by omega),?_⟩
   intro a w hs;replace hs:=hs.rerow .z (m':=(j+1)) (xs':=(((ra.l.take (j+1)).map (zUa c.curve (zAy ra rb t).1 (zAy ra rb t).2.1 rb.l)).flatMap zA5)) (rfl) (by rw [← zC0 (by omega),List.flatMap_append,zT1 (by first | exact zdt (by assumption) | exact zdq (by assumption))];rfl)
   replace hs:=hs.drop (.c (.s (.s (.s .z))) (.c (.s (.s .z)) (.c (.s .z) .n)))
   replace hs:=hs.reorder (.c .z (.c (.s .z) (.c (.s .z) (.c .z (.c .z .n)))))
   refine ⟨_,?_,(j+1),v17,rfl,hs.sub (.c rfl (.c rfl (.c rfl (.c rfl (.c rfl (.c rfl (.c rfl (.c rfl .n)))))))),by omega⟩
   omega
  rw [c_11] at hs
  revert a w hs
  refine go 10 [0] [89,87,6,11,12,14,43,44,45] (.c (.s .z) .n) ⟨rfl,λg18=>?_⟩
  intro a w hs;refine zBI (size:=6) (bytes:=48) hs rfl rfl (.s (.s (.s (.s (.s .z))))) (zAJ (m:=1) (size:=6) (hs.mem.del .z) rfl (by decide)) (by simp [Value.oneCell']) underlying31 (i:=Tryz.t43) rfl rfl rfl rfl rfl (by decide) (by omega) (by simp only [maxLen];omega) rfl ?_;intro v19
  refine cl (·.drop (.c (.s .z) .n)) ?_
  refine goL 3 [] [45,15,6,11,12,14,43,44] .n ⟨(by omega),?_⟩
  intro a w hs;replace hs:=hs.rerow .z (m':=(j+1)) (xs':=(((ra.l.take (j+1)).map (zUa c.curve (zAy ra rb t).1 (zAy ra rb t).2.1 rb.l)).flatMap zA5)) (rfl) (by rw [← zC0 (by omega),List.flatMap_append,zT1 (by first | exact zdt (by assumption) | exact zdq (by assumption))];rfl)
  replace hs:=hs.drop (.c (.s (.s (.s (.s .z)))) (.c (.s (.s .z)) (.c (.s .z) .n)))
  replace hs:=hs.reorder (.c .z (.c (.s .z) (.c (.s .z) (.c .z (.c .z .n)))))
  refine ⟨_,?_,(j+1),v19,rfl,hs.sub (.c rfl (.c rfl (.c rfl (.c rfl (.c rfl (.c rfl (.c rfl (.c rfl .n)))))))),by omega⟩
  omega
 refine go 3 [] [9,8] .n ?_
 refine cl (·.drop (.c (.s (.s (.s (.s .z)))) (.c (.s (.s (.s .z))) (.c (.s (.s .z)) (.c (.s .z) .n))))) ?_
 intro a w hs;replace hs:=hs.rerow .z (m':=(zD5 c ra rb t).length) (xs':=((zD5 c ra rb t).flatMap zA5)) (by rw [hLL,List.length_map];omega) (by rw [hLL,List.take_of_length_le (by omega)])
 exact zBR hs rfl rfl rfl ⟨_,by rw [hE0];rfl,rfl⟩
theorem zVn (c:zAG) (L:List RI) (v:Value) (t:Int) (ht : -9223372036854775808≤t∧t≤9223372036854775807) (w0:World) (hL:∀ x∈L,x.ok w0) (hb:Rd w0 [] v 3 L.length (L.flatMap snV)):Calls Tryz.prog 49 #[.agg #[zI c.ring,zI c.window,zI c.base,zI c.gain,zI c.least,zI c.most,zI c.slack,zI c.num,zI c.den,zI c.extra,.bool (c.curve)],.int .i64 t,v] w0 (Ret w0 [] λz N=>∃ v,z = .tuple #[v,nI ((zEU c L t).2)]∧N=[row v 43 6 (zEU c L t).1.length ((zEU c L t).1.flatMap zA5)]):=by
 have hle:=hb.le
 simp only [maxLen] at hle
 have hiv:=zcQ hL
 refine zG (F0:=[(0,.agg #[zI c.ring,zI c.window,zI c.base,zI c.gain,zI c.least,zI c.most,zI c.slack,zI c.num,zI c.den,zI c.extra,.bool (c.curve)]),(1,zI t),(2,v)]) func49 rfl rfl rfl (.c (.c (.c .n))) (Mem.nil _) ?_
 refine go 5 [0,0] [13,12,3,1,2] .n (λg1=>⟨rfl,?_⟩)
 intro a w hs;refine zB (v:=nI (zFz c L)) hs (.c rfl (.c rfl .n)) call81 (zNj c L v _ (λx hx=>(hL x hx).to hs.mem) (hs.rd0 hb)) rfl ?_
 refine goL 3 [] [16,8,3,1,2] .n ?_
 refine ifG rfl (λc_2=>?_) (λc_2=>?_)
 ·
  refine go 3 [] [7,6] .n ?_
  have hE:=zaD (t:=t) (by assumption:((zFz c L:Nat):Int)≠0)
  refine cl (·.drop (.c .z .n)) ?_
  refine cl (·.addNil 43 6) ?_
  intro a w hs;replace hs:=hs.rerow .z (m':=(zEU c L t).1.length) (xs':=((zEU c L t).1.flatMap zA5)) (by rw [hE];rfl) (by rw [hE];rfl)
  exact zBR hs rfl rfl rfl ⟨_,by rw [hE],rfl⟩
 have hc0:=zC9 (by assumption)
 refine go 2 [] [20,19,3,1,2] .n ?_
 intro a w hs;refine zB (v:=.tuple #[zI ((zBN L t).1),zI ((zBN L t).2.1),nI ((zBN L t).2.2)]) hs (.c rfl (.c rfl .n)) call82 (zW9 L hiv v t _ (hs.rd0 hb)) rfl ?_
 refine goL 10 [] [25,11,10,9,3,1,2] .n ?_
 refine ifG rfl (λc_3=>?_) (λc_3=>?_)
 ·
  refine go 3 [] [7,6] .n ?_
  have hE:=zZq hc0 (by assumption)
  refine cl (·.drop (.c .z .n)) ?_
  refine cl (·.addNil 43 6) ?_
  intro a w hs;replace hs:=hs.rerow .z (m':=(zEU c L t).1.length) (xs':=((zEU c L t).1.flatMap zA5)) (by rw [hE];rfl) (by rw [hE];rfl)
  exact zBR hs rfl rfl rfl ⟨_,by rw [hE],rfl⟩
 have hz1:=zC9 (by assumption:(((zBN L t).2.2:Nat):Int)=0)
 obtain ⟨hz2,i,hi,hi1,hi2,hi3,hi4⟩:=zVc hz1
 intro a w hs;have hz0:=hc0;rw [hi1] at hs
 replace hs:=hs.sub (F':=[(25,.bool (!(((((zBN L t).2.2:Nat):Int):Int)==0))),(11,nI ((zBN L t).2.2)),(10,zI ((zBN L t).2.1)),(9,zI (i:Int)),(3,pt g1 0),(1,zI t),(2,v)]) (.c rfl (.c rfl (.c rfl (.c rfl (.c rfl (.c rfl (.c rfl .n)))))))
 revert a w hs
 refine go 3 [] [29,10,9,3,1,2] .n ?_
 refine ifG rfl (λc_4=>?_) (λc_4=>?_)
 ·
  refine go 0 [] [9,3,1,2] .n ?_
  intro a w hs
  refine zAS [.p [] [0],.p [] [],.p [] [],.v [2,1] (.pointer (some (adr v (i*3)))),.v [3] (.agg #[zI ((L.getD i default).t),zI ((L.getD i default).tm),(L.getD i default).v]),.p [] [],.x [5,4,0] ⟨[],[],[],λvs5=>vs5 6 = .tuple #[(zGT (vs5 6)),nI (zEb c (L.getD i default) t)],λvs5=>[row (zGT (vs5 6)) 43 6 ((zDu c (L.getD i default) t).length) ((zDu c (L.getD i default) t).flatMap zA5)],none⟩,.x [] ⟨[],[],[6],λvs5=>vs5 7=(zGT (vs5 6)),λvs5=>[],none⟩,.y [] (nI (zEb c (L.getD i default) t)) [] [] [] λvs5=>[],.x [] ⟨[],[],[6],λvs5=>vs5 9=(zGT (vs5 6)),λvs5=>[],none⟩,.p [8] []] [10] hs .n .n (.c .z .n) (by kernel_rfl) ⟨rfl,λ_ _ _ _ hm hs K=>zBm (j:=i) hs rfl rfl (hm.rd0 hb) rfl (by omega) underlying37 sizeOf46 rfl (vk K),λ_ _ _ _ hm hs K=>zA9 (cs:=snV (L.getD i default)) hs rfl (hm.rd0 hb) (zAh zCI L i (by omega)) (by rw [zAX zCI];omega) (by omega) isAgg46 sizeOf46 rfl (vk K),⟨.n,by kernel_rfl,λ_=>rfl,rfl,rfl⟩,⟨?_,?_,?_,?_,trivial⟩,?_⟩
  ·
   intro a_ w_ R_ rest_ vs5 hm hs ht hx
   have hs0:=hs.bare
   refine zK hs (.c rfl (.c rfl (.c rfl .n))) call83 .n (zYA c (L.getD i default) t ⟨by omega,by omega⟩ _ ((hL _ (zGB (by omega))).to hm)) rfl ?_;clear hs;rintro _ _ a w ⟨v6,rfl,rfl⟩ hs
   exact wpList_nil ⟨rfl,_,_,hs0,(.c (.c (.c .r))),hs,rfl⟩
  ·
   intro a_ w_ R_ rest_ vs5 hm hs ht hx
   have t6:=ht 6 (zD 11 _ (by kernel_rfl))
   have e6:_=some (vs5 6):=t6.val rfl
   rw [show vs5 6 = .tuple #[(zGT (vs5 6)),nI (zEb c (L.getD i default) t)] from t6.2.1] at e6
   replace hs:=hs.learn e6
   have hs0:=hs.bare
   refine zH9 hs rfl .z rfl ?_;clear hs;intro a w hs
   exact wpList_nil ⟨rfl,_,_,hs0,(.c .r),hs,rfl⟩
  ·
   intro a_ w_ R_ rest_ vs5 hm hs ht hx
   have t6:=ht 6 (zD 11 _ (by kernel_rfl))
   have e6:_=some (vs5 6):=t6.val rfl
   rw [show vs5 6 = .tuple #[(zGT (vs5 6)),nI (zEb c (L.getD i default) t)] from t6.2.1] at e6
   replace hs:=hs.learn e6
   have hs0:=hs.bare
   refine zH9 hs rfl (.s .z) rfl ?_;clear hs;intro a w hs
   exact wpList_nil ⟨rfl,_,_,hs0,(.c .r),hs,rfl⟩
  ·
   intro a_ w_ R_ rest_ vs5 hm hs ht hx
   have t7:=ht 7 (zD 11 _ (by kernel_rfl))
   have e7:_=some (vs5 7):=t7.val rfl
   rw [show vs5 7=(zGT (vs5 6)) from t7.2.1] at e7
   replace hs:=hs.learn e7
   have hs0:=hs.bare
   refine zEH hs rfl rfl ?_;clear hs;intro a w hs
   exact wpList_nil ⟨rfl,_,_,hs0,(.c .r),hs,rfl⟩
  clear hs w a;intro vs5 a w hs hf
  obtain ⟨e9,q9⟩:=hf 9 (by decide)
  replace e9:_=some (vs5 9):=e9.val rfl
  rw [show vs5 9=(zGT (vs5 6)) from q9] at e9
  replace hs:=hs.learn e9;clear e9 q9
  generalize zGT (vs5 6)=v7 at hs
  clear hf
  revert a w hs
  refine goE 0 [] [6,7] .n ?_
  refine cl (·.drop (.c .z .n)) ?_
  have hE:=zZF hz0 hz1 hi1 (by assumption)
  intro a w hs;exact zBR hs rfl rfl rfl ⟨_,by rw [hE],by rw [hE]⟩
 have hi5:(zBN L t).2.1=((i+1:Nat):Int):=by rw [hi3];by_cases hq:i+1=L.length<;>simp only [hq,if_true,if_false] at hi3 ⊢ <;> omega
 have hi6:i+1<L.length:=by have:=hi3;split at this<;>omega
 intro a w hs;rw [hi5] at hs
 revert a w hs
 refine go 0 [] [10,9,3,1,2] .n ?_
 intro a w hs
 refine zAS [.p [] [0],.p [] [],.p [] [],.v [2,1] (.pointer (some (adr v (i*3)))),.v [3] (.agg #[zI ((L.getD i default).t),zI ((L.getD i default).tm),(L.getD i default).v]),.p [] [],.p [] [],.v [6,5] (.pointer (some (adr v ((i+1)*3)))),.v [7] (.agg #[zI ((L.getD (i+1) default).t),zI ((L.getD (i+1) default).tm),(L.getD (i+1) default).v]),.p [] [],.x [9,8,4,0] ⟨[],[],[],λvs8=>vs8 10 = .tuple #[(zGT (vs8 10)),nI (zEe c (L.getD i default) (L.getD (i+1) default) t)],λvs8=>[row (zGT (vs8 10)) 43 6 ((zD5 c (L.getD i default) (L.getD (i+1) default) t).length) ((zD5 c (L.getD i default) (L.getD (i+1) default) t).flatMap zA5)],none⟩,.x [] ⟨[],[],[10],λvs8=>vs8 11=(zGT (vs8 10)),λvs8=>[],none⟩,.y [] (nI (zEe c (L.getD i default) (L.getD (i+1) default) t)) [] [] [] λvs8=>[],.x [] ⟨[],[],[10],λvs8=>vs8 13=(zGT (vs8 10)),λvs8=>[],none⟩,.p [12] []] [14] hs .n .n (.c .z .n) (by kernel_rfl) ⟨rfl,λ_ _ _ _ hm hs K=>zBm (j:=i) hs rfl rfl (hm.rd0 hb) rfl (by omega) underlying37 sizeOf46 rfl (vk K),λ_ _ _ _ hm hs K=>zA9 (cs:=snV (L.getD i default)) hs rfl (hm.rd0 hb) (zAh zCI L i (by omega)) (by rw [zAX zCI];omega) (by omega) isAgg46 sizeOf46 rfl (vk K),λ_ _ _ _ hm hs K=>zBm (j:=(i+1)) hs rfl rfl (hm.rd0 hb) rfl (by omega) underlying37 sizeOf46 rfl (vk K),λ_ _ _ _ hm hs K=>zA9 (cs:=snV (L.getD (i+1) default)) hs rfl (hm.rd0 hb) (zAh zCI L (i+1) (by omega)) (by rw [zAX zCI];omega) (by omega) isAgg46 sizeOf46 rfl (vk K),⟨.n,by kernel_rfl,λ_=>rfl,rfl,rfl⟩,⟨?_,?_,?_,?_,trivial⟩,?_⟩
 ·
  intro a_ w_ R_ rest_ vs8 hm hs ht hx
  have hs0:=hs.bare
  refine zK hs (.c rfl (.c rfl (.c rfl (.c rfl .n)))) call84 .n (zaH c (L.getD i default) (L.getD (i+1) default) t _ ((hL _ (zGB (by omega))).to hm) ((hL _ (zGB (by omega))).to hm)) rfl ?_;clear hs;rintro _ _ a w ⟨v9,rfl,rfl⟩ hs
  exact wpList_nil ⟨rfl,_,_,hs0,(.c (.c (.c (.c .r)))),hs,rfl⟩
 ·
  intro a_ w_ R_ rest_ vs8 hm hs ht hx
  have t10:=ht 10 (zD 15 _ (by kernel_rfl))
  have e10:_=some (vs8 10):=t10.val rfl
  rw [show vs8 10 = .tuple #[(zGT (vs8 10)),nI (zEe c (L.getD i default) (L.getD (i+1) default) t)] from t10.2.1] at e10
  replace hs:=hs.learn e10
  have hs0:=hs.bare
  refine zH9 hs rfl .z rfl ?_;clear hs;intro a w hs
  exact wpList_nil ⟨rfl,_,_,hs0,(.c .r),hs,rfl⟩
 ·
  intro a_ w_ R_ rest_ vs8 hm hs ht hx
  have t10:=ht 10 (zD 15 _ (by kernel_rfl))
  have e10:_=some (vs8 10):=t10.val rfl
  rw [show vs8 10 = .tuple #[(zGT (vs8 10)),nI (zEe c (L.getD i default) (L.getD (i+1) default) t)] from t10.2.1] at e10
  replace hs:=hs.learn e10
  have hs0:=hs.bare
  refine zH9 hs rfl (.s .z) rfl ?_;clear hs;intro a w hs
  exact wpList_nil ⟨rfl,_,_,hs0,(.c .r),hs,rfl⟩
 ·
  intro a_ w_ R_ rest_ vs8 hm hs ht hx
  have t11:=ht 11 (zD 15 _ (by kernel_rfl))
  have e11:_=some (vs8 11):=t11.val rfl
  rw [show vs8 11=(zGT (vs8 10)) from t11.2.1] at e11
  replace hs:=hs.learn e11
  have hs0:=hs.bare
  refine zEH hs rfl rfl ?_;clear hs;intro a w hs
  exact wpList_nil ⟨rfl,_,_,hs0,(.c .r),hs,rfl⟩
 clear hs w a;intro vs8 a w hs hf
 obtain ⟨e13,q13⟩:=hf 13 (by decide)
 replace e13:_=some (vs8 13):=e13.val rfl
 rw [show vs8 13=(zGT (vs8 10)) from q13] at e13
 replace hs:=hs.learn e13;clear e13 q13
 generalize zGT (vs8 10)=v10 at hs
 clear hf
 revert a w hs
 refine goE 0 [] [6,7] .n ?_
 refine cl (·.drop (.c .z .n)) ?_
 have hE:=zaJ hz0 hz1 hi1 hi5
 intro a w hs;exact zBR hs rfl rfl rfl ⟨_,by rw [hE],by rw [hE]⟩
end Go.Proofs.YtajjkegcfmhghaaGreat
