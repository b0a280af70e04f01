import Derived.Test.YtemnjodhidlfpaaGreatQG8
import Derived.Test.YtemnjodhidlfpaaGreatQG9
import Derived.Test.YtemnjodhidlfpaaGreatQG11
import Derived.Test.YtemnjodhidlfpaaGreatQG12
import Derived.Test.YtemnjodhidlfpaaGreatQWdel
import Derived.Test.YtemnjodhidlfpaaGreatQSxBasB
/- Walks of poses: what each function does, over the program of this seat. Printed by a program of this session. -/
namespace Go.Proofs.YtemnjodhidlfpaaGreat
open Tryz
open Go Go.Sx Go.RowKit
set_option linter.unusedVariables false
set_option linter.unusedSimpArgs false
set_option maxRecDepth 4000
set_option maxHeartbeats 1000000

theorem zLl (c:zAL) (L:List RI) (v:Value) (w0:World) (hL:∀ x ∈ L,x.ok w0) (hb:Rd w0 [] v 3 L.length (L.flatMap snV)):Calls Tryz.prog 32 #[.agg #[zI c.ring,zI c.window,zI c.base,zI c.gain,zI c.least,zI c.most,zI c.slack,zI c.num,zI c.den,zI c.extra,.bool (c.curve)],v] w0 (zAj w0 (nI (zEc c L))):=by
 have hle:=hb.le
 simp only [maxLen] at hle
 refine zG (F0:=[(0,.agg #[zI c.ring,zI c.window,zI c.base,zI c.gain,zI c.least,zI c.most,zI c.slack,zI c.num,zI c.den,zI c.extra,.bool (c.curve)]),(1,v)]) func32 rfl rfl rfl (.c (.c .n)) (Mem.nil _) ?_
 refine go 3 [0,0] [9,1] .n (fun g1=>⟨rfl,?_⟩)
 intro a w hs;refine zB (v:=nI (zCm c)) hs (.c rfl .n) call54 (zL8 c _) rfl ?_
 refine goL 3 [] [12,5,1] .n ?_
 refine ifG rfl (fun c_2=>?_) (fun c_2=>?_)
 ·
  refine go 2 [] [4] .n ?_
  refine cl (·.drop (.c .z .n)) ?_
  intro a w hs;exact fin hs rfl rfl ⟨congrArg (fun n:Nat=>Value.int .i64 (n:Int)) (zZT (by assumption)),rfl⟩
 refine go 1 [] [14] .n ?_
 intro a w hs;refine zAD hs rfl (hs.rd0 hb).isSl underlying39 rfl ?_
 refine goL 1 [] [16,15,14] .n ?_
 refine cl (·.drop (.c .z .n)) ?_
 intro a w hs;refine zCL (fun mm_ a w=>∃ j:Nat,mm_ = L.length - j ∧ St 26 [(14,v),(15,nI L.length),(16,zI (j:Int))] w0 [] [] a w ∧ j ≤ L.length ∧ zEM (L.drop j) = zEM L) ⟨0,rfl,hs.sub (.c rfl (.c rfl (.c rfl .n))),by omega,rfl⟩ ?_
 clear hs w a;rintro mm_ a w ⟨j,rfl,hs,hI1_0,hI1_1⟩
 revert a w hs
 refine go 1 [] [17,14,15,16] .n ?_
 refine ifG rfl (fun c_3=>?_) (fun c_3=>?_)
 ·
  refine go 0 [] [14,15,16] .n ?_
  intro a w hs;refine zBL (j:=j) hs rfl rfl (hs.rd0 hb) rfl (by omega) underlying39 sizeOf44 rfl ?_
  intro a w hs;refine zBA (cs:=snV (L.getD j default)) hs rfl (hs.rd0 hb) (zAT zB2 L j (by omega)) (by rw [zAN zB2];omega) (by omega) isAgg44 sizeOf44 rfl ?_
  have ho1:=(hL _ (zFT (l:=L) (i:=j) (by omega))).t;have ho2:=(hL _ (zFT (l:=L) (i:=j) (by omega))).tm
  refine goL 3 [50,0] [20,14,15,16] .n (fun g4=>⟨rfl,(zJ rfl (zJ rfl (zJ (hL _ (zFT (by omega))).rd.isSl.one zAb))),rfl,?_⟩)
  intro a w hs;refine zB (v:=nI (zAE ((L.getD j default).t) ((L.getD j default).tm) ((L.getD j default).l))) hs (.c rfl .n) call65 (zLB ((L.getD j default).t) ((L.getD j default).tm) _ ((L.getD j default).l) _ (by omega) (by omega) (hs.rd0 (hL _ (zFT (by omega))).rd)) rfl ?_
  refine goL 3 [] [23,8,14,15,16] .n ?_
  refine ifG rfl (fun c_5=>?_) (fun c_5=>?_)
  ·
   refine go 2 [] [4] .n ?_
   refine cl (·.drop (.c .z .n)) ?_
   intro a w hs;exact fin hs rfl rfl ⟨congrArg (fun n:Nat=>Value.int .i64 (n:Int)) (zVC (by omega) (zPS (by omega) hI1_1 (by assumption))),rfl⟩
  refine go 2 [] [16,14,15] .n ⟨(by omega),?_⟩
  refine cl (·.drop (.c .z .n)) ?_
  intro a w hs;refine ⟨_,?_,j + 1,rfl,hs.sub (.c rfl (.c rfl (.c rfl .n))),by omega,zOX (by omega) hI1_1 (by assumption)⟩
  omega
 refine go 1 [] [4] .n ?_
 intro a w hs;exact fin hs rfl rfl ⟨congrArg (fun n:Nat=>Value.int .i64 (n:Int)) (zVC (by omega) (zQa (by omega) hI1_1)),rfl⟩
theorem zLb (x:zZ) (w0:World):Calls Tryz.prog 69 #[.agg #[zI x.id,zI x.p0,zI x.p1,zI x.p2,zI x.v0,zI x.v1,zI x.v2,.int .u16 (((x.a).toNat:Nat):Int),bI x.g]] w0 (zAj w0 (.agg #[zI ((zB4 x).id),zI ((zB4 x).p0),zI ((zB4 x).p1),zI ((zB4 x).p2),.int .u16 ((((zB4 x).a).toNat:Nat):Int),zI ((zB4 x).m)])):=by
 refine zG (F0:=[(0,.agg #[zI x.id,zI x.p0,zI x.p1,zI x.p2,zI x.v0,zI x.v1,zI x.v2,.int .u16 (((x.a).toNat:Nat):Int),bI x.g])]) func69 rfl rfl rfl (.c .n) (Mem.nil _) ?_
 refine go 10 [0,1,1,1,0] [2] .n (fun g1=>fun g2=>⟨rfl,rfl,rfl,rfl,?_⟩)
 intro a w hs;exact zLe hs rfl rfl .z (.z (.c (.c (.c (.c (.c (.c .n))))))) isAgg52 sizeOf52 (.c (.s .z) (.c .z .n)) ⟨rfl,rfl⟩
theorem zYn  (w0:World):Calls Tryz.prog 233 #[.agg #[]] w0 (zAj w0 (zI 1)):=by
 refine zG (F0:=[(0,.agg #[])]) func233 rfl rfl rfl (.c .n) (Mem.nil _) ?_
 refine go 3 [0] [2] .n (fun g1=>?_)
 refine cl (·.drop (.c .z .n)) ?_
 intro a w hs;exact fin hs rfl rfl ⟨rfl,rfl⟩
theorem zZe  (w0:World):Calls Tryz.prog 226 #[.agg #[]] w0 (zAj w0 (zI 2)):=by
 refine zG (F0:=[(0,.agg #[])]) func226 rfl rfl rfl (.c .n) (Mem.nil _) ?_
 refine go 3 [0] [2] .n (fun g1=>?_)
 refine cl (·.drop (.c .z .n)) ?_
 intro a w hs;exact fin hs rfl rfl ⟨rfl,rfl⟩
theorem zYj (x y:zZ) (n d:Int) (hx:x.wf) (hy:y.wf) (w0:World):Calls Tryz.prog 234 #[.agg #[],.agg #[zI x.id,zI x.p0,zI x.p1,zI x.p2,zI x.v0,zI x.v1,zI x.v2,.int .u16 (((x.a).toNat:Nat):Int),bI x.g],.agg #[zI y.id,zI y.p0,zI y.p1,zI y.p2,zI y.v0,zI y.v1,zI y.v2,.int .u16 (((y.a).toNat:Nat):Int),bI y.g],zI n,zI d] w0 (zAj w0 (.agg #[zI (pL n d x.p0 y.p0),zI (pL n d x.p1 y.p1),zI (pL n d x.p2 y.p2)])):=by
 have hxp0:=hx.p0;have hxp1:=hx.p1;have hxp2:=hx.p2;have hxv0:=hx.v0;have hxv1:=hx.v1;have hxv2:=hx.v2;have hyp0:=hy.p0;have hyp1:=hy.p1;have hyp2:=hy.p2;have hyv0:=hy.v0;have hyv1:=hy.v1;have hyv2:=hy.v2
 refine zG (F0:=[(0,.agg #[]),(1,.agg #[zI x.id,zI x.p0,zI x.p1,zI x.p2,zI x.v0,zI x.v1,zI x.v2,.int .u16 (((x.a).toNat:Nat):Int),bI x.g]),(2,.agg #[zI y.id,zI y.p0,zI y.p1,zI y.p2,zI y.v0,zI y.v1,zI y.v2,.int .u16 (((y.a).toNat:Nat):Int),bI y.g]),(3,zI n),(4,zI d)]) func234 rfl rfl rfl (.c (.c (.c (.c (.c .n))))) (Mem.nil _) ?_
 refine go 10 [0,0,0,2,1] [19,18,17,15,10] .n (fun g1=>fun g2=>fun g3=>fun g4=>⟨rfl,rfl,?_⟩)
 intro a w hs;refine zB (v:=.tuple #[.agg #[zI (bif zBa n d == 0 then zCw x.p0 y.p0 n d else 0),zI (bif zBa n d == 0 then zCw x.p1 y.p1 n d else 0),zI (bif zBa n d == 0 then zCw x.p2 y.p2 n d else 0)],nI (zBa n d)]) hs (.c rfl (.c rfl (.c rfl (.c rfl .n)))) call235 (zTN x.p0 x.p1 x.p2 y.p0 y.p1 y.p2 n d (by omega) (by omega) (by omega) (by omega) (by omega) (by omega) _) rfl ?_
 refine goL 8 [0,0,1] [10] (.c .z .n) (fun g5=>⟨rfl,rfl,rfl,?_⟩)
 intro a w hs;exact zLe hs rfl rfl (.s .z) (.z (.c (.c (.c .n)))) isAgg49 sizeOf49 (.c (.s (.s (.s (.s .z)))) (.c (.s (.s (.s .z))) (.c (.s (.s .z)) (.c (.s .z) (.c .z .n))))) ⟨rfl,rfl⟩
theorem zZ4 (x y:zZ) (n d:Int) (hx:x.wf) (hy:y.wf) (w0:World):Calls Tryz.prog 227 #[.agg #[],.agg #[zI x.id,zI x.p0,zI x.p1,zI x.p2,zI x.v0,zI x.v1,zI x.v2,.int .u16 (((x.a).toNat:Nat):Int),bI x.g],.agg #[zI y.id,zI y.p0,zI y.p1,zI y.p2,zI y.v0,zI y.v1,zI y.v2,.int .u16 (((y.a).toNat:Nat):Int),bI y.g],zI n,zI d] w0 (zAj w0 (.agg #[zI (pC n d x.p0 x.v0 y.p0 y.v0),zI (pC n d x.p1 x.v1 y.p1 y.v1),zI (pC n d x.p2 x.v2 y.p2 y.v2)])):=by
 have hxp0:=hx.p0;have hxp1:=hx.p1;have hxp2:=hx.p2;have hxv0:=hx.v0;have hxv1:=hx.v1;have hxv2:=hx.v2;have hyp0:=hy.p0;have hyp1:=hy.p1;have hyp2:=hy.p2;have hyv0:=hy.v0;have hyv1:=hy.v1;have hyv2:=hy.v2
 refine zG (F0:=[(0,.agg #[]),(1,.agg #[zI x.id,zI x.p0,zI x.p1,zI x.p2,zI x.v0,zI x.v1,zI x.v2,.int .u16 (((x.a).toNat:Nat):Int),bI x.g]),(2,.agg #[zI y.id,zI y.p0,zI y.p1,zI y.p2,zI y.v0,zI y.v1,zI y.v2,.int .u16 (((y.a).toNat:Nat):Int),bI y.g]),(3,zI n),(4,zI d)]) func227 rfl rfl rfl (.c (.c (.c (.c (.c .n))))) (Mem.nil _) ?_
 refine go 14 [0,0,0,2,2,1,1] [23,22,21,19,17,15,10] .n (fun g1=>fun g2=>fun g3=>fun g4=>⟨rfl,rfl,rfl,rfl,?_⟩)
 intro a w hs;refine zB (v:=.tuple #[.agg #[zI (bif zBa n d == 0 then cAt x.p0 x.v0 y.p0 y.v0 n d else 0),zI (bif zBa n d == 0 then cAt x.p1 x.v1 y.p1 y.v1 n d else 0),zI (bif zBa n d == 0 then cAt x.p2 x.v2 y.p2 y.v2 n d else 0)],nI (zBa n d)]) hs (.c rfl (.c rfl (.c rfl (.c rfl (.c rfl (.c rfl .n)))))) call228 (zXo x.p0 x.p1 x.p2 x.v0 x.v1 x.v2 y.p0 y.p1 y.p2 y.v0 y.v1 y.v2 n d (by omega) (by omega) (by omega) (by omega) (by omega) (by omega) (by omega) (by omega) (by omega) (by omega) (by omega) (by omega) _) rfl ?_
 refine goL 8 [0,0,1] [10] (.c .z .n) (fun g5=>⟨rfl,rfl,rfl,?_⟩)
 intro a w hs;exact zLe hs rfl rfl (.s .z) (.z (.c (.c (.c .n)))) isAgg49 sizeOf49 (.c (.s (.s (.s (.s .z)))) (.c (.s (.s (.s .z))) (.c (.s (.s .z)) (.c (.s .z) (.c .z .n))))) ⟨rfl,rfl⟩
theorem zY6 (c:zAL) (w0:World):Calls Tryz.prog 72 #[.agg #[zI c.ring,zI c.window,zI c.base,zI c.gain,zI c.least,zI c.most,zI c.slack,zI c.num,zI c.den,zI c.extra,.bool (c.curve)]] w0 (zAj w0 (.iface (bif c.curve then 198 else 199) (.agg #[]))):=by
 refine zG (F0:=[(0,.agg #[zI c.ring,zI c.window,zI c.base,zI c.gain,zI c.least,zI c.most,zI c.slack,zI c.num,zI c.den,zI c.extra,.bool (c.curve)])]) func72 rfl rfl rfl (.c .n) (Mem.nil _) ?_
 refine go 4 [0,0] [4] .n (fun g1=>⟨rfl,?_⟩)
 refine ifG rfl (fun c_2=>?_) (fun c_2=>?_)
 ·
  refine go 1 [] [5] .n ?_
  intro a w hs;refine zVd hs rfl (fun _=>by kernel_rfl) rfl ?_
  refine goL 1 [] [2] .n ?_
  refine cl (·.drop (.c .z .n)) ?_
  intro a w hs;exact fin hs rfl rfl ⟨by rw [show c.curve = true by assumption];rfl,rfl⟩
 refine go 1 [] [7] .n ?_
 intro a w hs;refine zVd hs rfl (fun _=>by kernel_rfl) rfl ?_
 refine goL 1 [] [2] .n ?_
 refine cl (·.drop (.c .z .n)) ?_
 intro a w hs;exact fin hs rfl rfl ⟨by rw [show c.curve = false by assumption];rfl,rfl⟩
theorem zRm (b:Bool) (f g:FuncId) (h:∀ args w,(callFunc f args).run Tryz.prog w = .ok (.enter f args) w) (h2:∀ args w,(callFunc g args).run Tryz.prog w = .ok (.enter g args) w):∀ args w,(callFunc (bif b then f else g) args).run Tryz.prog w = .ok (.enter (bif b then f else g) args) w:=by cases b <;> assumption
theorem zWb (c:zAL):∀ w,(method (Tryz.prog.types.size + Made.depth) (bif c.curve then 198 else 199) (.agg #[]) "afterimage/pose.mode").run Tryz.prog w = .ok ((bif c.curve then 226 else 233),.agg #[]) w:=by
 intro w;cases c.curve <;> kernel_rfl
theorem zTa (c:zAL):∀ w,(method (Tryz.prog.types.size + Made.depth) (bif c.curve then 198 else 199) (.agg #[]) "afterimage/pose.place").run Tryz.prog w = .ok ((bif c.curve then 227 else 234),.agg #[]) w:=by
 intro w;cases c.curve <;> kernel_rfl
theorem zZX (c:zAL) (w0:World):Calls Tryz.prog (bif c.curve then 226 else 233) #[.agg #[]] w0 (zAj w0 (zI (bif c.curve then 2 else 1))):=by
 cases c.curve
 · exact zYn w0
 · exact zZe w0
theorem zY7 (c:zAL) (x y:zZ) (n d:Int) (hx:x.wf) (hy:y.wf) (w0:World):Calls Tryz.prog (bif c.curve then 227 else 234) #[.agg #[],.agg #[zI x.id,zI x.p0,zI x.p1,zI x.p2,zI x.v0,zI x.v1,zI x.v2,.int .u16 (((x.a).toNat:Nat):Int),bI x.g],.agg #[zI y.id,zI y.p0,zI y.p1,zI y.p2,zI y.v0,zI y.v1,zI y.v2,.int .u16 (((y.a).toNat:Nat):Int),bI y.g],zI n,zI d] w0 (zAj w0 (.agg #[zI (pW c.curve n d x.p0 x.v0 y.p0 y.v0),zI (pW c.curve n d x.p1 x.v1 y.p1 y.v1),zI (pW c.curve n d x.p2 x.v2 y.p2 y.v2)])):=by
 cases c.curve
 · exact zYj x y n d hx hy w0
 · exact zZ4 x y n d hx hy w0
theorem zV6 (c:zAL) (ra:RI) (t:Int) (ht : -9223372036854775808 ≤ t ∧ t ≤ 9223372036854775807) (w0:World) (hra:ra.ok w0):Calls Tryz.prog 34 #[.agg #[zI c.ring,zI c.window,zI c.base,zI c.gain,zI c.least,zI c.most,zI c.slack,zI c.num,zI c.den,zI c.extra,.bool (c.curve)],.agg #[zI ra.t,zI ra.tm,ra.v],.int .i64 t] w0 (Ret w0 [] fun z N=>∃ v,z = .tuple #[v,nI (zDN c ra t)] ∧ N = [row v 52 6 (zCv c ra t).length ((zCv c ra t).flatMap zA0)]):=by
 have hat:=hra.tm;have hat2:=hra.t;have hle:=hra.rd.le
 simp only [maxLen] at hle
 refine zG (F0:=[(0,.agg #[zI c.ring,zI c.window,zI c.base,zI c.gain,zI c.least,zI c.most,zI c.slack,zI c.num,zI c.den,zI c.extra,.bool (c.curve)]),(1,.agg #[zI ra.t,zI ra.tm,ra.v]),(2,zI t)]) func34 rfl rfl rfl (.c (.c (.c .n))) (Mem.nil _) ?_
 refine go 7 [0,0,1,0] [18,16,4,3,2] .n (fun g1=>fun g2=>⟨rfl,rfl,fun g3=>?_⟩)
 intro a w hs;refine zB (v:=nI (zEc c ([ra]))) hs (.c rfl (.c rfl .n)) call32 (zLl c ([ra]) (.slice (some ⟨g3,0,none⟩) 1 1) _ (zZt ((hra).to hs.mem)) (zAJ (m:=1) (size:=3) (hs.mem.del .z) rfl (by decide))) rfl ?_
 refine goL 3 [] [21,8,4,3,2] .n ?_
 refine ifG rfl (fun c_4=>?_) (fun c_4=>?_)
 ·
  refine go 3 [] [7,6] .n ?_
  have hE:zDN c ra t = zEc c ([ra]):=zX6 (by assumption)
  have hS:(zCv c ra t) = []:=zPq (by rw [hE];assumption)
  refine cl (·.drop (.c (.s (.s .z)) (.c (.s .z) (.c .z .n)))) ?_
  refine cl (·.addNil 52 6) ?_
  intro a w hs;replace hs:=hs.rerow .z (m':=(zCv c ra t).length) (xs':=((zCv c ra t).flatMap zA0)) (by rw [hS];rfl) (by rw [hS];rfl)
  exact zBO hs rfl rfl rfl ⟨_,by rw [hE],rfl⟩
 have hc0:=zCo (by assumption)
 have hck:=zFY (zJ3 hc0).1;have hlen:=zG8 hc0 (List.mem_singleton.2 rfl)
 refine go 2 [0] [25,24,4,3] (.c (.s .z) .n) ⟨rfl,?_⟩
 intro a w hs;refine zB (v:=.tuple #[zI ((zHf ra t).1),nI ((zHf ra t).2)]) hs (.c rfl (.c rfl .n)) call68 (zWw ra hra.rd.isSl t ⟨by omega,by omega⟩ ⟨by omega,by omega⟩ _) rfl ?_
 refine goL 7 [] [30,10,9,4,3] .n ?_
 refine ifG rfl (fun c_5=>?_) (fun c_5=>?_)
 ·
  refine go 3 [] [7,6] .n ?_
  have hE:zDN c ra t = (zHf ra t).2:=zQh hc0
  have hS:(zCv c ra t) = []:=zPq (by rw [hE];assumption)
  refine cl (·.drop (.c (.s (.s .z)) (.c (.s .z) (.c .z .n)))) ?_
  refine cl (·.addNil 52 6) ?_
  intro a w hs;replace hs:=hs.rerow .z (m':=(zCv c ra t).length) (xs':=((zCv c ra t).flatMap zA0)) (by rw [hS];rfl) (by rw [hS];rfl)
  exact zBO hs rfl rfl rfl ⟨_,by rw [hE],rfl⟩
 have hc2:=zCo (by assumption)
 have hE0:zDN c ra t = 0:=by rw [zQh hc0];exact hc2
 have hbr0:=zNb ra t
 refine goF 8 1 [] [11,9,4,3] .n ?_
 intro a w hs;refine zYW (fun a w=>∃ m:Int,∃ k:Int,St 66 [(3,pt g1 0),(4,pt g2 0),(9,zI k),(11,zI m)] w0 [] [blk g2 [zI ra.t,zI ra.tm,ra.v] 44,blk g3 [zI ra.t,zI ra.tm,ra.v] 44,blk g1 [zI c.ring,zI c.window,zI c.base,zI c.gain,zI c.least,zI c.most,zI c.slack,zI c.num,zI c.den,zI c.extra,.bool (c.curve)] 23] a w ∧ m = zJ7 c (zHf ra t).1 ∧ k = zIV c (zHf ra t).1) ?_ ?_
 ·
  revert a w hs
  refine go 3 [] [32,11,9,4,3] .n ?_
  refine ifG rfl (fun c_6=>?_) (fun c_6=>?_)
  ·
   refine go 1 [] [11,9,4,3] .n ?_
   intro a w hs;exact ⟨0,((zHf ra t).1),hs.sub (.c rfl (.c rfl (.c rfl (.c rfl .n)))),by first | exact (zE9 (by assumption)).1 | exact (zE0 (by assumption) (by assumption)).1 | exact (zE6 (by assumption) (by assumption)).1,by first | exact (zE9 (by assumption)).2 | exact (zE0 (by assumption) (by assumption)).2 | exact (zE6 (by assumption) (by assumption)).2⟩
  refine go 5 [0] [35,11,9,4,3] (.c (.s (.s .z)) .n) ⟨rfl,?_⟩
  refine ifG rfl (fun c_7=>?_) (fun c_7=>?_)
  ·
   refine cl (·.sub (F':=[(4,pt g2 0),(3,pt g1 0)]) (.c rfl (.c rfl .n))) ?_
   intro a w hs
   refine zS [.p [] [],.p [0] [0],.p [] [],.p [1] []] [2,3] hs .n (.c .z .n) (by kernel_rfl) ⟨rfl,⟨rfl,by kernel_rfl,fun _=>rfl,rfl,rfl,trivial⟩,fun _=>rfl,?_⟩
   refine goE 0 [] [9,11,4,3] .n ?_
   refine cl (·.reorder (.c (.s .z) (.c (.s .z) (.c .z .n)))) ?_
   intro a w hs;exact ⟨4,c.extra,hs.sub (.c rfl (.c rfl (.c rfl (.c rfl .n)))),by first | exact (zE9 (by assumption)).1 | exact (zE0 (by assumption) (by assumption)).1 | exact (zE6 (by assumption) (by assumption)).1,by first | exact (zE9 (by assumption)).2 | exact (zE0 (by assumption) (by assumption)).2 | exact (zE6 (by assumption) (by assumption)).2⟩
  refine go 0 [] [11,9,4,3] .n ?_
  refine cl (·.reorder (.c (.s .z) (.c (.s .z) (.c .z .n)))) ?_
  intro a w hs;exact ⟨3,((zHf ra t).1),hs.sub (.c rfl (.c rfl (.c rfl (.c rfl .n)))),by first | exact (zE9 (by assumption)).1 | exact (zE0 (by assumption) (by assumption)).1 | exact (zE6 (by assumption) (by assumption)).1,by first | exact (zE9 (by assumption)).2 | exact (zE0 (by assumption) (by assumption)).2 | exact (zE6 (by assumption) (by assumption)).2⟩
 clear hs w a;rintro a w ⟨m,k,hs,hJ9,hJ10⟩
 have hmk:=And.intro hJ9 hJ10;have hkr : -9223372036854775808 ≤ k ∧ k ≤ 9223372036854775807:=by have hbr:=zNb ra t;have hq:=hmk.2;unfold zIV at hq;split at hq <;> (try split at hq) <;> omega
 have hLL:zCv c ra t = ra.l.map (zYX m k):=by rw [hmk.1,hmk.2];exact zXG hE0
 revert a w hs
 refine go 3 [0] [43,12,9,11] (.c .z .n) ⟨rfl,?_⟩
 intro a w hs;refine zAD hs rfl (hs.rd0 hra.rd).isSl underlying42 rfl ?_
 refine goL 1 [] [45,44,43,12,9,11] .n ?_
 refine cl (·.addNil 52 6) ?_
 refine cl (·.rerow .z (m':=0) (xs':=(((ra.l.take 0).map (zYX m k)).flatMap zA0)) (rfl) (rfl)) ?_
 intro a w hs;refine zCL (fun mm_ a w=>∃ j:Nat,∃ u:Value,mm_ = ra.l.length - j ∧ St 66 [(9,zI k),(11,zI m),(12,u),(43,ra.v),(44,nI ra.l.length),(45,zI (j:Int))] w0 [] [row u 52 6 j (((ra.l.take j).map (zYX m k)).flatMap zA0),blk g2 [zI ra.t,zI ra.tm,ra.v] 44,blk g3 [zI ra.t,zI ra.tm,ra.v] 44,blk g1 [zI c.ring,zI c.window,zI c.base,zI c.gain,zI c.least,zI c.most,zI c.slack,zI c.num,zI c.den,zI c.extra,.bool (c.curve)] 23] a w ∧ j ≤ ra.l.length) ⟨0,.slice none 0 0,rfl,hs.sub (.c rfl (.c rfl (.c rfl (.c rfl (.c rfl (.c rfl .n)))))),by omega⟩ ?_
 clear hs w a;rintro mm_ a w ⟨j,u,rfl,hs,hI1_0⟩
 revert a w hs
 refine go 1 [] [46,9,11,12,43,44,45] .n ?_
 refine ifG rfl (fun c_11=>?_) (fun c_11=>?_)
 ·
  refine go 0 [] [9,11,12,43,44,45] .n ?_
  intro a w hs;refine zBL (j:=j) hs rfl rfl (hs.rd0 hra.rd) rfl (by omega) underlying42 sizeOf142 rfl ?_
  intro a w hs;refine zBA (cs:=zBN (ra.l.getD j default)) hs rfl (hs.rd0 hra.rd) (zAT zBt ra.l j (by omega)) (by rw [zAN zBt];omega) (by omega) isAgg142 sizeOf142 rfl ?_
  have hex:=(hra.wf _ (zRT (l:=ra.l) (i:=j) (by omega)));have hp0:=hex.p0;have hp1:=hex.p1;have hp2:=hex.p2;have hv0:=hex.v0;have hv1:=hex.v1;have hv2:=hex.v2
  refine goL 3 [0,0] [49,14,9,11,12,43,44,45] .n (fun g12=>⟨rfl,rfl,?_⟩)
  intro a w hs;refine zB (v:=.agg #[zI ((zB4 (ra.l.getD j default)).id),zI ((zB4 (ra.l.getD j default)).p0),zI ((zB4 (ra.l.getD j default)).p1),zI ((zB4 (ra.l.getD j default)).p2),.int .u16 ((((zB4 (ra.l.getD j default)).a).toNat:Nat):Int),zI ((zB4 (ra.l.getD j default)).m)]) hs (.c rfl .n) call69 (zLb (ra.l.getD j default) _) rfl ?_
  refine goL 8 [0,1,1] [56,55,53,51,15,9,11,12,43,44,45] (.c .z .n) (fun g13=>⟨rfl,rfl,rfl,?_⟩)
  intro a w hs;refine zB (v:=.agg #[zI (zCr ((ra.l.getD j default).p0) (zAt ((ra.l.getD j default).v0) k)),zI (zCr ((ra.l.getD j default).p1) (zAt ((ra.l.getD j default).v1) k)),zI (zCr ((ra.l.getD j default).p2) (zAt ((ra.l.getD j default).v2) k))]) hs (.c rfl (.c rfl (.c rfl .n))) call70 (zZd ((ra.l.getD j default).p0) ((ra.l.getD j default).p1) ((ra.l.getD j default).p2) ((ra.l.getD j default).v0) ((ra.l.getD j default).v1) ((ra.l.getD j default).v2) k (by omega) (by omega) (by omega) (by omega) (by omega) (by omega) (by omega) _) rfl ?_
  refine goL 7 [0,0,0] [62,60,9,11,43,44,45] (.c .z .n) ⟨rfl,rfl,rfl,fun g14=>?_⟩
  intro a w hs;refine zBF (size:=6) (bytes:=48) hs rfl rfl (.s (.s (.s .z))) (zAJ (m:=1) (size:=6) (hs.mem.del .z) rfl (by decide)) (by simp [Value.oneCell']) underlying34 (i:=Tryz.t52) rfl rfl rfl rfl rfl (by decide) (by omega) (by simp only [maxLen];omega) rfl ?_;intro v15
  refine cl (·.drop (.c (.s .z) .n)) ?_
  refine goL 3 [] [45,12,9,11,43,44] .n ⟨(by omega),?_⟩
  intro a w hs;replace hs:=hs.rerow .z (m':=(j + 1)) (xs':=(((ra.l.take (j + 1)).map (zYX m k)).flatMap zA0)) (rfl) (by rw [← zCc (by omega),List.flatMap_append];rfl)
  replace hs:=hs.drop (.c (.s (.s .z)) (.c (.s .z) .n))
  refine ⟨_,?_,(j + 1),v15,rfl,hs.sub (.c rfl (.c rfl (.c rfl (.c rfl (.c rfl (.c rfl .n)))))),by omega⟩
  omega
 refine go 3 [] [7,6] .n ?_
 refine cl (·.drop (.c (.s (.s (.s .z))) (.c (.s (.s .z)) (.c (.s .z) .n)))) ?_
 intro a w hs;replace hs:=hs.rerow .z (m':=(zCv c ra t).length) (xs':=((zCv c ra t).flatMap zA0)) (by rw [hLL,List.length_map];omega) (by rw [hLL,List.take_of_length_le (by omega)])
 exact zBO hs rfl rfl rfl ⟨_,by rw [hE0];rfl,rfl⟩
theorem zXb (c:zAL) (ra rb:RI) (t:Int) (w0:World) (hra:ra.ok w0) (hrb:rb.ok w0):Calls Tryz.prog 35 #[.agg #[zI c.ring,zI c.window,zI c.base,zI c.gain,zI c.least,zI c.most,zI c.slack,zI c.num,zI c.den,zI c.extra,.bool (c.curve)],.agg #[zI ra.t,zI ra.tm,ra.v],.agg #[zI rb.t,zI rb.tm,rb.v],.int .i64 t] w0 (Ret w0 [] fun z N=>∃ v,z = .tuple #[v,nI (zDK c ra rb t)] ∧ N = [row v 52 6 (zC0 c ra rb t).length ((zC0 c ra rb t).flatMap zA0)]):=by
 have hat:=hra.tm;have hat2:=hra.t;have hbt:=hrb.tm;have hbt2:=hrb.t;have hle:=hra.rd.le;have hle2:=hrb.rd.le
 simp only [maxLen] at hle hle2
 refine zG (F0:=[(0,.agg #[zI c.ring,zI c.window,zI c.base,zI c.gain,zI c.least,zI c.most,zI c.slack,zI c.num,zI c.den,zI c.extra,.bool (c.curve)]),(1,.agg #[zI ra.t,zI ra.tm,ra.v]),(2,.agg #[zI rb.t,zI rb.tm,rb.v]),(3,zI t)]) func35 rfl rfl rfl (.c (.c (.c (.c .n)))) (Mem.nil _) ?_
 refine go 9 [0,0,0,2,1,0] [24,21,6,5,4,3] .n (fun g1=>fun g2=>fun g3=>⟨rfl,rfl,rfl,fun g4=>?_⟩)
 intro a w hs;refine zB (v:=nI (zEc c ([ra,rb]))) hs (.c rfl (.c rfl .n)) call32 (zLl c ([ra,rb]) (.slice (some ⟨g4,0,none⟩) 2 2) _ (zZh ((hra).to hs.mem) ((hrb).to hs.mem)) (zAJ (m:=2) (size:=3) (hs.mem.del .z) rfl (by decide))) rfl ?_
 refine goL 3 [] [27,10,6,5,4,3] .n ?_
 refine ifG rfl (fun c_5=>?_) (fun c_5=>?_)
 ·
  refine go 3 [] [9,8] .n ?_
  have hE:zDK c ra rb t = zEc c ([ra,rb]):=zXN (by assumption)
  have hS:(zC0 c ra rb t) = []:=zRj (by rw [hE];assumption)
  refine cl (·.drop (.c (.s (.s (.s .z))) (.c (.s (.s .z)) (.c (.s .z) (.c .z .n))))) ?_
  refine cl (·.addNil 52 6) ?_
  intro a w hs;replace hs:=hs.rerow .z (m':=(zC0 c ra rb t).length) (xs':=((zC0 c ra rb t).flatMap zA0)) (by rw [hS];rfl) (by rw [hS];rfl)
  exact zBO hs rfl rfl rfl ⟨_,by rw [hE],rfl⟩
 have hc0:=zCo (by assumption)
 have hlen:=zG8 hc0 (List.mem_cons_self)
 refine go 3 [0,1] [32,31,30,6,5,4] (.c (.s (.s .z)) (.c (.s .z) .n)) ⟨rfl,rfl,?_⟩
 intro a w hs;refine zB (v:=.tuple #[zI ((zAs ra rb t).1),zI ((zAs ra rb t).2.1),nI ((zAs ra rb t).2.2)]) hs (.c rfl (.c rfl (.c rfl .n))) call71 (zSm ra rb hra.rd.isSl hrb.rd.isSl t _) rfl ?_
 refine goL 9 [] [38,13,12,11,6,5,4] .n ?_
 refine ifG rfl (fun c_6=>?_) (fun c_6=>?_)
 ·
  refine go 3 [] [9,8] .n ?_
  have hE:zDK c ra rb t = (zAs ra rb t).2.2:=zR8 hc0
  have hS:(zC0 c ra rb t) = []:=zRj (by rw [hE];assumption)
  refine cl (·.drop (.c (.s (.s (.s .z))) (.c (.s (.s .z)) (.c (.s .z) (.c .z .n))))) ?_
  refine cl (·.addNil 52 6) ?_
  intro a w hs;replace hs:=hs.rerow .z (m':=(zC0 c ra rb t).length) (xs':=((zC0 c ra rb t).flatMap zA0)) (by rw [hS];rfl) (by rw [hS];rfl)
  exact zBO hs rfl rfl rfl ⟨_,by rw [hE],rfl⟩
 have hc2:=zCo (by assumption)
 have hE0:zDK c ra rb t = 0:=by rw [zR8 hc0];exact hc2
 have hLL:=zWk hE0
 refine go 1 [0] [40,12,11,6,5] (.c (.s (.s (.s .z))) .n) ⟨rfl,?_⟩
 intro a w hs;refine zB (v:=.iface (bif c.curve then 198 else 199) (.agg #[])) hs (.c rfl .n) call72 (zY6 c _) rfl ?_
 refine goL 4 [0] [43,15,14,12,11,6] (.c (.s .z) .n) ⟨rfl,?_⟩
 intro a w hs;refine zAD hs rfl (hs.rd0 hra.rd).isSl underlying42 rfl ?_
 refine goL 1 [] [45,44,43,15,14,12,11,6] .n ?_
 refine cl (·.addNil 52 6) ?_
 refine cl (·.rerow .z (m':=0) (xs':=(((ra.l.take 0).map (zSP c.curve (zAs ra rb t).1 (zAs ra rb t).2.1 rb.l)).flatMap zA0)) (rfl) (rfl)) ?_
 intro a w hs;refine zCL (fun mm_ a w=>∃ j:Nat,∃ u:Value,mm_ = ra.l.length - j ∧ St 93 [(6,pt g3 0),(11,zI ((zAs ra rb t).1)),(12,zI ((zAs ra rb t).2.1)),(14,.iface (bif c.curve then 198 else 199) (.agg #[])),(15,u),(43,ra.v),(44,nI ra.l.length),(45,zI (j:Int))] w0 [] [row u 52 6 j (((ra.l.take j).map (zSP c.curve (zAs ra rb t).1 (zAs ra rb t).2.1 rb.l)).flatMap zA0),blk g2 [zI ra.t,zI ra.tm,ra.v] 44,blk g1 [zI c.ring,zI c.window,zI c.base,zI c.gain,zI c.least,zI c.most,zI c.slack,zI c.num,zI c.den,zI c.extra,.bool (c.curve)] 23,blk g3 [zI rb.t,zI rb.tm,rb.v] 44,blk g4 [zI ra.t,zI ra.tm,ra.v,zI rb.t,zI rb.tm,rb.v] 44] a w ∧ j ≤ ra.l.length) ⟨0,.slice none 0 0,rfl,hs.sub (.c rfl (.c rfl (.c rfl (.c rfl (.c rfl (.c rfl (.c rfl (.c rfl .n)))))))),by omega⟩ ?_
 clear hs w a;rintro mm_ a w ⟨j,u,rfl,hs,hI1_0⟩
 revert a w hs
 refine go 1 [] [46,6,11,12,14,15,43,44,45] .n ?_
 refine ifG rfl (fun c_7=>?_) (fun c_7=>?_)
 ·
  refine go 0 [] [6,11,12,14,15,43,44,45] .n ?_
  intro a w hs;refine zBL (j:=j) hs rfl rfl (hs.rd0 hra.rd) rfl (by omega) underlying42 sizeOf142 rfl ?_
  intro a w hs;refine zBA (cs:=zBN (ra.l.getD j default)) hs rfl (hs.rd0 hra.rd) (zAT zBt ra.l j (by omega)) (by rw [zAN zBt];omega) (by omega) isAgg142 sizeOf142 rfl ?_
  have hex:=(hra.wf _ (zRT (l:=ra.l) (i:=j) (by omega)));have hp0:=hex.p0;have hp1:=hex.p1;have hp2:=hex.p2;have hv0:=hex.v0;have hv1:=hex.v1;have hv2:=hex.v2
  refine goL 3 [0,0] [49,17,6,11,12,14,15,43,44,45] .n (fun g8=>⟨rfl,rfl,?_⟩)
  intro a w hs;refine zB (v:=.agg #[zI ((zB4 (ra.l.getD j default)).id),zI ((zB4 (ra.l.getD j default)).p0),zI ((zB4 (ra.l.getD j default)).p1),zI ((zB4 (ra.l.getD j default)).p2),.int .u16 ((((zB4 (ra.l.getD j default)).a).toNat:Nat):Int),zI ((zB4 (ra.l.getD j default)).m)]) hs (.c rfl .n) call69 (zLb (ra.l.getD j default) _) rfl ?_
  refine goL 5 [0,1,2] [54,52,18,17,6,11,12,14,15,43,44,45] (.c (.s (.s (.s (.s .z)))) (.c .z .n)) (fun g9=>⟨rfl,rfl,rfl,?_⟩)
  intro a w hs;refine zB (v:=.tuple #[.agg #[zI (((zA9 ((ra.l.getD j default).id) rb.l).getD zC6).id),zI (((zA9 ((ra.l.getD j default).id) rb.l).getD zC6).p0),zI (((zA9 ((ra.l.getD j default).id) rb.l).getD zC6).p1),zI (((zA9 ((ra.l.getD j default).id) rb.l).getD zC6).p2),zI (((zA9 ((ra.l.getD j default).id) rb.l).getD zC6).v0),zI (((zA9 ((ra.l.getD j default).id) rb.l).getD zC6).v1),zI (((zA9 ((ra.l.getD j default).id) rb.l).getD zC6).v2),.int .u16 (((((zA9 ((ra.l.getD j default).id) rb.l).getD zC6).a).toNat:Nat):Int),bI (((zA9 ((ra.l.getD j default).id) rb.l).getD zC6).g)],.bool ((zA9 ((ra.l.getD j default).id) rb.l).isSome)]) hs (.c rfl (.c rfl .n)) call73 (zXn rb.t rb.tm _ rb.l ((ra.l.getD j default).id) _ (hs.rd0 hrb.rd)) rfl ?_
  refine goL 8 [0] [59,19,18,17,6,11,12,14,15,43,44,45] .n (fun g10=>⟨rfl,?_⟩)
  intro a w hs;refine zW (b:=(zA9 ((ra.l.getD j default).id) rb.l).isSome) (fun c_11=>?_) (fun c_11=>?_)
  ·
   rw [c_11] at hs
   revert a w hs
   refine go 6 [0,1] [65,19,18,17,6,11,12,14,15,43,44,45] (.c .z (.c (.s (.s .z)) .n)) ⟨rfl,rfl,?_⟩
   refine ifG rfl (fun c_12=>?_) (fun c_12=>?_)
   ·
    refine go 0 [] [19,18,17,6,11,12,14,15,43,44,45] .n ?_
    intro a w hs
    refine zS [.p [] [],.v [0] (zI (bif c.curve then 2 else 1)),.p [] [],.p [] [0],.p [] [1],.p [] [],.p [] [],.v [6,5,4,3,2] (.agg #[zI (pW c.curve ((zAs ra rb t).1) ((zAs ra rb t).2.1) (ra.l.getD j default).p0 (ra.l.getD j default).v0 ((zA9 ((ra.l.getD j default).id) rb.l).getD zC6).p0 ((zA9 ((ra.l.getD j default).id) rb.l).getD zC6).v0),zI (pW c.curve ((zAs ra rb t).1) ((zAs ra rb t).2.1) (ra.l.getD j default).p1 (ra.l.getD j default).v1 ((zA9 ((ra.l.getD j default).id) rb.l).getD zC6).p1 ((zA9 ((ra.l.getD j default).id) rb.l).getD zC6).v1),zI (pW c.curve ((zAs ra rb t).1) ((zAs ra rb t).2.1) (ra.l.getD j default).p2 (ra.l.getD j default).v2 ((zA9 ((ra.l.getD j default).id) rb.l).getD zC6).p2 ((zA9 ((ra.l.getD j default).id) rb.l).getD zC6).v2)]),.p [] [],.s [8,1] [0] [0] [],.p [] [],.s [10,7] [0] [] [9]] [] hs (.c (.s (.s .z)) .n) (.c (.s .z) (.c .z .n)) (by kernel_rfl) ⟨fun _ _ _ _ hm hs K=>zKe (v:=zI (bif c.curve then 2 else 1)) hs rfl .n (zWb c) (zRm c.curve 226 233 call226 call233) (zZX c _) rfl (vk K),rfl,rfl,fun _ _ _ _ hm hs K=>zKe (v:=.agg #[zI (pW c.curve ((zAs ra rb t).1) ((zAs ra rb t).2.1) (ra.l.getD j default).p0 (ra.l.getD j default).v0 ((zA9 ((ra.l.getD j default).id) rb.l).getD zC6).p0 ((zA9 ((ra.l.getD j default).id) rb.l).getD zC6).v0),zI (pW c.curve ((zAs ra rb t).1) ((zAs ra rb t).2.1) (ra.l.getD j default).p1 (ra.l.getD j default).v1 ((zA9 ((ra.l.getD j default).id) rb.l).getD zC6).p1 ((zA9 ((ra.l.getD j default).id) rb.l).getD zC6).v1),zI (pW c.curve ((zAs ra rb t).1) ((zAs ra rb t).2.1) (ra.l.getD j default).p2 (ra.l.getD j default).v2 ((zA9 ((ra.l.getD j default).id) rb.l).getD zC6).p2 ((zA9 ((ra.l.getD j default).id) rb.l).getD zC6).v2)]) hs rfl (.c rfl (.c rfl (.c rfl (.c rfl .n)))) (zTa c) (zRm c.curve 227 234 call227 call234) (zY7 c (ra.l.getD j default) ((zA9 ((ra.l.getD j default).id) rb.l).getD zC6) ((zAs ra rb t).1) ((zAs ra rb t).2.1) (hra.wf _ (zRT (by omega))) (zYJ hrb.wf) _) rfl (vk K),rfl,rfl,⟨rfl,by kernel_rfl,fun _=>rfl,rfl,rfl,trivial⟩,fun _=>rfl,?_⟩
    refine goE 6 [0,1] [82,81,80,78,18,6,11,12,14,15,43,44,45] (.c (.s .z) (.c .z .n)) ⟨rfl,rfl,?_⟩
    intro a w hs;refine zB (v:=.tuple #[.int .u16 (((bif zBa ((zAs ra rb t).1) ((zAs ra rb t).2.1) == 0 then zVw ((ra.l.getD j default).a) (((zA9 ((ra.l.getD j default).id) rb.l).getD zC6).a) ((zAs ra rb t).1) ((zAs ra rb t).2.1) else 0#16).toNat:Nat):Int),nI (zBa ((zAs ra rb t).1) ((zAs ra rb t).2.1))]) hs (.c rfl (.c rfl (.c rfl (.c rfl .n)))) call74 (zUL ((ra.l.getD j default).a) (((zA9 ((ra.l.getD j default).id) rb.l).getD zC6).a) ((zAs ra rb t).1) ((zAs ra rb t).2.1) _) rfl ?_
    refine goL 8 [0,0] [89,87,6,11,12,14,43,44,45] (.c (.s (.s (.s (.s (.s (.s (.s .z))))))) .n) ⟨rfl,rfl,fun g14=>?_⟩
    intro a w hs;refine zBF (size:=6) (bytes:=48) hs rfl rfl (.s (.s (.s (.s (.s .z))))) (zAJ (m:=1) (size:=6) (hs.mem.del .z) rfl (by decide)) (by simp [Value.oneCell']) underlying34 (i:=Tryz.t52) rfl rfl rfl rfl rfl (by decide) (by omega) (by simp only [maxLen];omega) rfl ?_;intro v15
    refine cl (·.drop (.c (.s .z) .n)) ?_
    refine goL 3 [] [45,15,6,11,12,14,43,44] .n ⟨(by omega),?_⟩
    intro a w hs;replace hs:=hs.rerow .z (m':=(j + 1)) (xs':=(((ra.l.take (j + 1)).map (zSP c.curve (zAs ra rb t).1 (zAs ra rb t).2.1 rb.l)).flatMap zA0)) (rfl) (by rw [← zCc (by omega),List.flatMap_append,zWa ⟨by assumption,BitVec.eq_of_toNat_eq (by omega)⟩];rfl)
    replace hs:=hs.drop (.c (.s (.s (.s .z))) (.c (.s (.s .z)) (.c (.s .z) .n)))
    replace hs:=hs.reorder (.c .z (.c (.s .z) (.c (.s .z) (.c .z (.c .z .n)))))
    refine ⟨_,?_,(j + 1),v15,rfl,hs.sub (.c rfl (.c rfl (.c rfl (.c rfl (.c rfl (.c rfl (.c rfl (.c rfl .n)))))))),by omega⟩
    omega
   refine go 3 [0] [89,87,6,11,12,14,43,44,45] (.c (.s (.s .z)) .n) ⟨rfl,fun g16=>?_⟩
   intro a w hs;refine zBF (size:=6) (bytes:=48) hs rfl rfl (.s (.s (.s (.s (.s .z))))) (zAJ (m:=1) (size:=6) (hs.mem.del .z) rfl (by decide)) (by simp [Value.oneCell']) underlying34 (i:=Tryz.t52) rfl rfl rfl rfl rfl (by decide) (by omega) (by simp only [maxLen];omega) rfl ?_;intro v17
   refine cl (·.drop (.c (.s .z) .n)) ?_
   refine goL 3 [] [45,15,6,11,12,14,43,44] .n ⟨(by omega),?_⟩
   intro a w hs;replace hs:=hs.rerow .z (m':=(j + 1)) (xs':=(((ra.l.take (j + 1)).map (zSP c.curve (zAs ra rb t).1 (zAs ra rb t).2.1 rb.l)).flatMap zA0)) (rfl) (by rw [← zCc (by omega),List.flatMap_append,zQA (by first | exact zbH (by assumption) | exact zbD (by assumption))];rfl)
   replace hs:=hs.drop (.c (.s (.s (.s .z))) (.c (.s (.s .z)) (.c (.s .z) .n)))
   replace hs:=hs.reorder (.c .z (.c (.s .z) (.c (.s .z) (.c .z (.c .z .n)))))
   refine ⟨_,?_,(j + 1),v17,rfl,hs.sub (.c rfl (.c rfl (.c rfl (.c rfl (.c rfl (.c rfl (.c rfl (.c rfl .n)))))))),by omega⟩
   omega
  rw [c_11] at hs
  revert a w hs
  refine go 10 [0] [89,87,6,11,12,14,43,44,45] (.c (.s .z) .n) ⟨rfl,fun g18=>?_⟩
  intro a w hs;refine zBF (size:=6) (bytes:=48) hs rfl rfl (.s (.s (.s (.s (.s .z))))) (zAJ (m:=1) (size:=6) (hs.mem.del .z) rfl (by decide)) (by simp [Value.oneCell']) underlying34 (i:=Tryz.t52) rfl rfl rfl rfl rfl (by decide) (by omega) (by simp only [maxLen];omega) rfl ?_;intro v19
  refine cl (·.drop (.c (.s .z) .n)) ?_
  refine goL 3 [] [45,15,6,11,12,14,43,44] .n ⟨(by omega),?_⟩
  intro a w hs;replace hs:=hs.rerow .z (m':=(j + 1)) (xs':=(((ra.l.take (j + 1)).map (zSP c.curve (zAs ra rb t).1 (zAs ra rb t).2.1 rb.l)).flatMap zA0)) (rfl) (by rw [← zCc (by omega),List.flatMap_append,zQA (by first | exact zbH (by assumption) | exact zbD (by assumption))];rfl)
  replace hs:=hs.drop (.c (.s (.s (.s (.s .z)))) (.c (.s (.s .z)) (.c (.s .z) .n)))
  replace hs:=hs.reorder (.c .z (.c (.s .z) (.c (.s .z) (.c .z (.c .z .n)))))
  refine ⟨_,?_,(j + 1),v19,rfl,hs.sub (.c rfl (.c rfl (.c rfl (.c rfl (.c rfl (.c rfl (.c rfl (.c rfl .n)))))))),by omega⟩
  omega
 refine go 3 [] [9,8] .n ?_
 refine cl (·.drop (.c (.s (.s (.s (.s .z)))) (.c (.s (.s (.s .z))) (.c (.s (.s .z)) (.c (.s .z) .n))))) ?_
 intro a w hs;replace hs:=hs.rerow .z (m':=(zC0 c ra rb t).length) (xs':=((zC0 c ra rb t).flatMap zA0)) (by rw [hLL,List.length_map];omega) (by rw [hLL,List.take_of_length_le (by omega)])
 exact zBO hs rfl rfl rfl ⟨_,by rw [hE0];rfl,rfl⟩
theorem zUZ (c:zAL) (L:List RI) (v:Value) (t:Int) (ht : -9223372036854775808 ≤ t ∧ t ≤ 9223372036854775807) (w0:World) (hL:∀ x ∈ L,x.ok w0) (hb:Rd w0 [] v 3 L.length (L.flatMap snV)):Calls Tryz.prog 14 #[.agg #[zI c.ring,zI c.window,zI c.base,zI c.gain,zI c.least,zI c.most,zI c.slack,zI c.num,zI c.den,zI c.extra,.bool (c.curve)],.int .i64 t,v] w0 (Ret w0 [] fun z N=>∃ v,z = .tuple #[v,nI ((zDT c L t).2)] ∧ N = [row v 52 6 (zDT c L t).1.length ((zDT c L t).1.flatMap zA0)]):=by
 have hle:=hb.le
 simp only [maxLen] at hle
 have hiv:=zZm hL
 refine zG (F0:=[(0,.agg #[zI c.ring,zI c.window,zI c.base,zI c.gain,zI c.least,zI c.most,zI c.slack,zI c.num,zI c.den,zI c.extra,.bool (c.curve)]),(1,zI t),(2,v)]) func14 rfl rfl rfl (.c (.c (.c .n))) (Mem.nil _) ?_
 refine go 5 [0,0] [13,12,3,1,2] .n (fun g1=>⟨rfl,?_⟩)
 intro a w hs;refine zB (v:=nI (zEc c L)) hs (.c rfl (.c rfl .n)) call32 (zLl c L v _ (fun x hx=>(hL x hx).to hs.mem) (hs.rd0 hb)) rfl ?_
 refine goL 3 [] [16,8,3,1,2] .n ?_
 refine ifG rfl (fun c_2=>?_) (fun c_2=>?_)
 ·
  refine go 3 [] [7,6] .n ?_
  have hE:=zVz (t:=t) (by assumption:((zEc c L:Nat):Int) ≠ 0)
  refine cl (·.drop (.c .z .n)) ?_
  refine cl (·.addNil 52 6) ?_
  intro a w hs;replace hs:=hs.rerow .z (m':=(zDT c L t).1.length) (xs':=((zDT c L t).1.flatMap zA0)) (by rw [hE];rfl) (by rw [hE];rfl)
  exact zBO hs rfl rfl rfl ⟨_,by rw [hE],rfl⟩
 have hc0:=zCo (by assumption)
 refine go 2 [] [20,19,3,1,2] .n ?_
 intro a w hs;refine zB (v:=.tuple #[zI ((zA7 L t).1),zI ((zA7 L t).2.1),nI ((zA7 L t).2.2)]) hs (.c rfl (.c rfl .n)) call33 (zUN L hiv v t _ (hs.rd0 hb)) rfl ?_
 refine goL 10 [] [25,11,10,9,3,1,2] .n ?_
 refine ifG rfl (fun c_3=>?_) (fun c_3=>?_)
 ·
  refine go 3 [] [7,6] .n ?_
  have hE:=zWe hc0 (by assumption)
  refine cl (·.drop (.c .z .n)) ?_
  refine cl (·.addNil 52 6) ?_
  intro a w hs;replace hs:=hs.rerow .z (m':=(zDT c L t).1.length) (xs':=((zDT c L t).1.flatMap zA0)) (by rw [hE];rfl) (by rw [hE];rfl)
  exact zBO hs rfl rfl rfl ⟨_,by rw [hE],rfl⟩
 have hz1:=zCo (by assumption:(((zA7 L t).2.2:Nat):Int) = 0)
 obtain ⟨hz2,i,hi,hi1,hi2,hi3,hi4⟩:=zSg hz1
 intro a w hs;have hz0:=hc0;rw [hi1] at hs
 replace hs:=hs.sub (F':=[(25,.bool (!(((((zA7 L t).2.2:Nat):Int):Int) == 0))),(11,nI ((zA7 L t).2.2)),(10,zI ((zA7 L t).2.1)),(9,zI (i:Int)),(3,pt g1 0),(1,zI t),(2,v)]) (.c rfl (.c rfl (.c rfl (.c rfl (.c rfl (.c rfl (.c rfl .n)))))))
 revert a w hs
 refine go 3 [] [29,10,9,3,1,2] .n ?_
 refine ifG rfl (fun c_4=>?_) (fun c_4=>?_)
 ·
  refine go 0 [] [9,3,1,2] .n ?_
  intro a w hs
  refine zAS [.p [] [0],.p [] [],.p [] [],.v [2,1] (.pointer (some (adr v (i * 3)))),.v [3] (.agg #[zI ((L.getD i default).t),zI ((L.getD i default).tm),(L.getD i default).v]),.p [] [],.x [5,4,0] ⟨[],[],[],fun vs5=>vs5 6 = .tuple #[(zFb (vs5 6)),nI (zDN c (L.getD i default) t)],fun vs5=>[row (zFb (vs5 6)) 52 6 ((zCv c (L.getD i default) t).length) ((zCv c (L.getD i default) t).flatMap zA0)],none⟩,.x [] ⟨[],[],[6],fun vs5=>vs5 7 = (zFb (vs5 6)),fun vs5=>[],none⟩,.y [] (nI (zDN c (L.getD i default) t)) [] [] [] fun vs5=>[],.x [] ⟨[],[],[6],fun vs5=>vs5 9 = (zFb (vs5 6)),fun vs5=>[],none⟩,.p [8] []] [10] hs .n .n (.c .z .n) (by kernel_rfl) ⟨rfl,fun _ _ _ _ hm hs K=>zBL (j:=i) hs rfl rfl (hm.rd0 hb) rfl (by omega) underlying39 sizeOf44 rfl (vk K),fun _ _ _ _ hm hs K=>zBA (cs:=snV (L.getD i default)) hs rfl (hm.rd0 hb) (zAT zB2 L i (by omega)) (by rw [zAN zB2];omega) (by omega) isAgg44 sizeOf44 rfl (vk K),⟨.n,by kernel_rfl,fun _=>rfl,rfl,rfl⟩,⟨?_,?_,?_,?_,trivial⟩,?_⟩
  ·
   intro a_ w_ R_ rest_ vs5 hm hs ht hx
   have hs0:=hs.bare
   refine zM hs (.c rfl (.c rfl (.c rfl .n))) call34 .n (zV6 c (L.getD i default) t ⟨by omega,by omega⟩ _ ((hL _ (zFT (by omega))).to hm)) rfl ?_;clear hs;rintro _ _ a w ⟨v6,rfl,rfl⟩ hs
   exact wpList_nil ⟨rfl,_,_,hs0,(.c (.c (.c .r))),hs,rfl⟩
  ·
   intro a_ w_ R_ rest_ vs5 hm hs ht hx
   have t6:=ht 6 (zK 11 _ (by kernel_rfl))
   have e6:_ = some (vs5 6):=t6.val rfl
   rw [show vs5 6 = .tuple #[(zFb (vs5 6)),nI (zDN c (L.getD i default) t)] from t6.2.1] at e6
   replace hs:=hs.learn e6
   have hs0:=hs.bare
   refine zG1 hs rfl .z rfl ?_;clear hs;intro a w hs
   exact wpList_nil ⟨rfl,_,_,hs0,(.c .r),hs,rfl⟩
  ·
   intro a_ w_ R_ rest_ vs5 hm hs ht hx
   have t6:=ht 6 (zK 11 _ (by kernel_rfl))
   have e6:_ = some (vs5 6):=t6.val rfl
   rw [show vs5 6 = .tuple #[(zFb (vs5 6)),nI (zDN c (L.getD i default) t)] from t6.2.1] at e6
   replace hs:=hs.learn e6
   have hs0:=hs.bare
   refine zG1 hs rfl (.s .z) rfl ?_;clear hs;intro a w hs
   exact wpList_nil ⟨rfl,_,_,hs0,(.c .r),hs,rfl⟩
  ·
   intro a_ w_ R_ rest_ vs5 hm hs ht hx
   have t7:=ht 7 (zK 11 _ (by kernel_rfl))
   have e7:_ = some (vs5 7):=t7.val rfl
   rw [show vs5 7 = (zFb (vs5 6)) from t7.2.1] at e7
   replace hs:=hs.learn e7
   have hs0:=hs.bare
   refine zEN hs rfl rfl ?_;clear hs;intro a w hs
   exact wpList_nil ⟨rfl,_,_,hs0,(.c .r),hs,rfl⟩
  clear hs w a;intro vs5 a w hs hf
  obtain ⟨e9,q9⟩:=hf 9 (by decide)
  replace e9:_ = some (vs5 9):=e9.val rfl
  rw [show vs5 9 = (zFb (vs5 6)) from q9] at e9
  replace hs:=hs.learn e9;clear e9 q9
  generalize zFb (vs5 6) = v7 at hs
  clear hf
  revert a w hs
  refine goE 0 [] [6,7] .n ?_
  refine cl (·.drop (.c .z .n)) ?_
  have hE:=zVn hz0 hz1 hi1 (by assumption)
  intro a w hs;exact zBO hs rfl rfl rfl ⟨_,by rw [hE],by rw [hE]⟩
 have hi5:(zA7 L t).2.1 = ((i + 1:Nat):Int):=by rw [hi3];by_cases hq:i + 1 = L.length <;> simp only [hq,if_true,if_false] at hi3 ⊢ <;> omega
 have hi6:i + 1 < L.length:=by have:=hi3;split at this <;> omega
 intro a w hs;rw [hi5] at hs
 revert a w hs
 refine go 0 [] [10,9,3,1,2] .n ?_
 intro a w hs
 refine zAS [.p [] [0],.p [] [],.p [] [],.v [2,1] (.pointer (some (adr v (i * 3)))),.v [3] (.agg #[zI ((L.getD i default).t),zI ((L.getD i default).tm),(L.getD i default).v]),.p [] [],.p [] [],.v [6,5] (.pointer (some (adr v ((i + 1) * 3)))),.v [7] (.agg #[zI ((L.getD (i + 1) default).t),zI ((L.getD (i + 1) default).tm),(L.getD (i + 1) default).v]),.p [] [],.x [9,8,4,0] ⟨[],[],[],fun vs8=>vs8 10 = .tuple #[(zFb (vs8 10)),nI (zDK c (L.getD i default) (L.getD (i + 1) default) t)],fun vs8=>[row (zFb (vs8 10)) 52 6 ((zC0 c (L.getD i default) (L.getD (i + 1) default) t).length) ((zC0 c (L.getD i default) (L.getD (i + 1) default) t).flatMap zA0)],none⟩,.x [] ⟨[],[],[10],fun vs8=>vs8 11 = (zFb (vs8 10)),fun vs8=>[],none⟩,.y [] (nI (zDK c (L.getD i default) (L.getD (i + 1) default) t)) [] [] [] fun vs8=>[],.x [] ⟨[],[],[10],fun vs8=>vs8 13 = (zFb (vs8 10)),fun vs8=>[],none⟩,.p [12] []] [14] hs .n .n (.c .z .n) (by kernel_rfl) ⟨rfl,fun _ _ _ _ hm hs K=>zBL (j:=i) hs rfl rfl (hm.rd0 hb) rfl (by omega) underlying39 sizeOf44 rfl (vk K),fun _ _ _ _ hm hs K=>zBA (cs:=snV (L.getD i default)) hs rfl (hm.rd0 hb) (zAT zB2 L i (by omega)) (by rw [zAN zB2];omega) (by omega) isAgg44 sizeOf44 rfl (vk K),fun _ _ _ _ hm hs K=>zBL (j:=(i + 1)) hs rfl rfl (hm.rd0 hb) rfl (by omega) underlying39 sizeOf44 rfl (vk K),fun _ _ _ _ hm hs K=>zBA (cs:=snV (L.getD (i + 1) default)) hs rfl (hm.rd0 hb) (zAT zB2 L (i + 1) (by omega)) (by rw [zAN zB2];omega) (by omega) isAgg44 sizeOf44 rfl (vk K),⟨.n,by kernel_rfl,fun _=>rfl,rfl,rfl⟩,⟨?_,?_,?_,?_,trivial⟩,?_⟩
 ·
  intro a_ w_ R_ rest_ vs8 hm hs ht hx
  have hs0:=hs.bare
  refine zM hs (.c rfl (.c rfl (.c rfl (.c rfl .n)))) call35 .n (zXb c (L.getD i default) (L.getD (i + 1) default) t _ ((hL _ (zFT (by omega))).to hm) ((hL _ (zFT (by omega))).to hm)) rfl ?_;clear hs;rintro _ _ a w ⟨v9,rfl,rfl⟩ hs
  exact wpList_nil ⟨rfl,_,_,hs0,(.c (.c (.c (.c .r)))),hs,rfl⟩
 ·
  intro a_ w_ R_ rest_ vs8 hm hs ht hx
  have t10:=ht 10 (zK 15 _ (by kernel_rfl))
  have e10:_ = some (vs8 10):=t10.val rfl
  rw [show vs8 10 = .tuple #[(zFb (vs8 10)),nI (zDK c (L.getD i default) (L.getD (i + 1) default) t)] from t10.2.1] at e10
  replace hs:=hs.learn e10
  have hs0:=hs.bare
  refine zG1 hs rfl .z rfl ?_;clear hs;intro a w hs
  exact wpList_nil ⟨rfl,_,_,hs0,(.c .r),hs,rfl⟩
 ·
  intro a_ w_ R_ rest_ vs8 hm hs ht hx
  have t10:=ht 10 (zK 15 _ (by kernel_rfl))
  have e10:_ = some (vs8 10):=t10.val rfl
  rw [show vs8 10 = .tuple #[(zFb (vs8 10)),nI (zDK c (L.getD i default) (L.getD (i + 1) default) t)] from t10.2.1] at e10
  replace hs:=hs.learn e10
  have hs0:=hs.bare
  refine zG1 hs rfl (.s .z) rfl ?_;clear hs;intro a w hs
  exact wpList_nil ⟨rfl,_,_,hs0,(.c .r),hs,rfl⟩
 ·
  intro a_ w_ R_ rest_ vs8 hm hs ht hx
  have t11:=ht 11 (zK 15 _ (by kernel_rfl))
  have e11:_ = some (vs8 11):=t11.val rfl
  rw [show vs8 11 = (zFb (vs8 10)) from t11.2.1] at e11
  replace hs:=hs.learn e11
  have hs0:=hs.bare
  refine zEN hs rfl rfl ?_;clear hs;intro a w hs
  exact wpList_nil ⟨rfl,_,_,hs0,(.c .r),hs,rfl⟩
 clear hs w a;intro vs8 a w hs hf
 obtain ⟨e13,q13⟩:=hf 13 (by decide)
 replace e13:_ = some (vs8 13):=e13.val rfl
 rw [show vs8 13 = (zFb (vs8 10)) from q13] at e13
 replace hs:=hs.learn e13;clear e13 q13
 generalize zFb (vs8 10) = v10 at hs
 clear hf
 revert a w hs
 refine goE 0 [] [6,7] .n ?_
 refine cl (·.drop (.c .z .n)) ?_
 have hE:=zXP hz0 hz1 hi1 hi5
 intro a w hs;exact zBO hs rfl rfl rfl ⟨_,by rw [hE],by rw [hE]⟩
end Go.Proofs.YtemnjodhidlfpaaGreat
