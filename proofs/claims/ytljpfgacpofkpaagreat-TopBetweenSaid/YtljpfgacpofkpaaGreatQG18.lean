import Derived.Test.YtljpfgacpofkpaaGreatQG8
import Derived.Test.YtljpfgacpofkpaaGreatQSxStos
import Derived.Test.YtljpfgacpofkpaaGreatQG9
import Derived.Test.YtljpfgacpofkpaaGreatQG13
import Derived.Test.YtljpfgacpofkpaaGreatQSxBasB
import Derived.Test.YtljpfgacpofkpaaGreatProg
set_option linter.unusedVariables false
set_option linter.unusedSimpArgs false
namespace Go.Proofs.YtljpfgacpofkpaaGreat
open Tryz
open Go Go.Sx Go.RowKit
set_option maxRecDepth 4000
set_option maxHeartbeats 1000000
def zaI (c:zAS) (p:KP) (K:KS):List HA:=[blk p.k [pt p.wg 0,pt p.sg 0,pt p.jg 0,pt p.dg 0] 150,blk p.wg [zI c.window,p.v1,p.v2,p.v3] 191,rwo p.v1 2 (iV K.l1),rwo p.v2 2 (iV K.l2),rwo p.v3 2 (iV K.l3),blk p.sg [zI c.num,zI c.den,zI K.s,zI K.t,zI K.b] 193,blk p.jg [zI K.j,zI p.cn] 197,blk p.dg [zI c.ring,zI c.window,zI c.base,zI c.gain,zI c.least,zI c.most,zI c.slack,zI c.num,zI c.den,zI c.extra,.bool (c.curve),zI K.now,zI p.ch] 195]
def zGW (c:zAS) (p:KP) (K:KS):HA:=zFy (zaI c p K)
theorem zVn (c:zAS) (kk wg sg jg dg:Nat) (v1 v2 v3:Value) (l2:List Int) (w0:World) (hkk:(blk kk [pt wg 0,pt sg 0,pt jg 0,pt dg 0] 150).p w0) (hwg:(blk wg [zI c.window,v1,v2,v3] 191).p w0) (hb:Rd w0 [] v2 1 l2.length (iV l2)):Calls Tryz.prog 46 #[pt kk 0] w0 (zAh w0 (.tuple #[zI (l2.getD 0 0),.bool (decide (0<l2.length))])):=by
 refine zG (F0:=[(0,pt kk 0)]) func46 rfl rfl rfl (.c .n) (Mem.nil _) ?_
 refine go 9 [] [9] .n ?_
 intro a w hs;refine zAC hs rfl (hs.mem.keep hkk (by simp [zN,blk])) .z isAgg135 rfl ?_
 intro a w hs;refine zB (v:=.tuple #[zI (l2.getD 0 0),.bool (decide (0<l2.length))]) hs (.c rfl .n) call81 (zLV _ _ _ _ _ l2 _ (hs.mem.keep hwg (by simp [zN,blk])) (hs.rd0 hb)) rfl ?_
 refine goL 4 [] [3,2] .n ?_
 intro a w hs;exact zBO hs rfl rfl rfl ⟨rfl,rfl⟩
theorem zVv (c:zAS) (nn ch:Int) (kk wg sg jg dg:Nat) (w0:World) (hkk:(blk kk [pt wg 0,pt sg 0,pt jg 0,pt dg 0] 150).p w0) (hb:(blk dg [zI c.ring,zI c.window,zI c.base,zI c.gain,zI c.least,zI c.most,zI c.slack,zI c.num,zI c.den,zI c.extra,.bool (c.curve),zI nn,zI ch] 195).p w0):Calls Tryz.prog 48 #[pt kk 0] w0 (zAh w0 (.int .i64 nn)):=by
 refine zG (F0:=[(0,pt kk 0)]) func48 rfl rfl rfl (.c .n) (Mem.nil _) ?_
 refine go 8 [] [8] .n ?_
 intro a w hs;refine zAC hs rfl (hs.mem.keep hkk (by simp [zN,blk])) (.s (.s (.s .z))) isAgg141 rfl ?_
 intro a w hs;refine zB (v:=zI nn) hs (.c rfl .n) call83 (zXT _ _ _ _ _ (hs.mem.keep hb (by simp [zN,blk]))) rfl ?_
 refine goL 1 [] [2] .n ?_
 intro a w hs;exact fin hs rfl rfl ⟨rfl,rfl⟩
theorem zUd (c:zAS) (kk wg sg jg dg:Nat) (v1 v2 v3:Value) (cn ch:Int) (l1 l2 l3:List Int) (ss tt bb jj nn:Int) (x y:Int) (hk:zCb c=0) (hK:KS.ok c (⟨l1,l2,l3,ss,tt,bb,jj,nn⟩ : KS)) (hx : -9223372036854775808≤x∧x≤9223372036854775807) (hy : -9223372036854775808≤y∧y≤9223372036854775807) (w0:World) (hM:∀ h∈([blk kk [pt wg 0,pt sg 0,pt jg 0,pt dg 0] 150,blk wg [zI c.window,v1,v2,v3] 191,rwo v1 2 (iV l1),rwo v2 2 (iV l2),rwo v3 2 (iV l3),blk sg [zI c.num,zI c.den,zI ss,zI tt,zI bb] 193,blk jg [zI jj,zI cn] 197,blk dg [zI c.ring,zI c.window,zI c.base,zI c.gain,zI c.least,zI c.most,zI c.slack,zI c.num,zI c.den,zI c.extra,.bool (c.curve),zI nn,zI ch] 195]:List HA),h.p w0) (hnd:(zN [blk kk [pt wg 0,pt sg 0,pt jg 0,pt dg 0] 150,blk wg [zI c.window,v1,v2,v3] 191,rwo v1 2 (iV l1),rwo v2 2 (iV l2),rwo v3 2 (iV l3),blk sg [zI c.num,zI c.den,zI ss,zI tt,zI bb] 193,blk jg [zI jj,zI cn] 197,blk dg [zI c.ring,zI c.window,zI c.base,zI c.gain,zI c.least,zI c.most,zI c.slack,zI c.num,zI c.den,zI c.extra,.bool (c.curve),zI nn,zI ch] 195]).Nodup):Calls Tryz.prog 56 #[pt kk 0,.int .i64 x,.int .i64 y] w0 (Ret w0 (zN [blk kk [pt wg 0,pt sg 0,pt jg 0,pt dg 0] 150,blk wg [zI c.window,v1,v2,v3] 191,rwo v1 2 (iV l1),rwo v2 2 (iV l2),rwo v3 2 (iV l3),blk sg [zI c.num,zI c.den,zI ss,zI tt,zI bb] 193,blk jg [zI jj,zI cn] 197,blk dg [zI c.ring,zI c.window,zI c.base,zI c.gain,zI c.least,zI c.most,zI c.slack,zI c.num,zI c.den,zI c.extra,.bool (c.curve),zI nn,zI ch] 195]) λu N=>u = .int .i64 0∧∃ p':KP,p'.k=kk∧N=zaI c p' (zYh c (⟨l1,l2,l3,ss,tt,bb,jj,nn⟩ : KS) x y)):=by
 have hck:=zFh hk;have hdc:=hck.2.1;have hdd:=zH0 hdc;have hsc:=hck.2.2.1;have hc:=hsc
 obtain ⟨k1,k2,k3,k4,k5,k6,k7,k8,k9⟩:=hK;dsimp only at k1 k2 k3 k4 k5 k6 k7 k8 k9
 have kl2:=k2.length_le;have kl3:=k3.length_le;have kr2:=zKK (λx hx=>k5 x (k2.subset hx))
 have hdr:R64 (zBV x y):=zB8 _ _
 have hsr:=zZR (K:=(⟨l1,l2,l3,ss,tt,bb,jj,nn⟩ : KS)) ⟨k1,k2,k3,k4,k5,k6,k7,k8,k9⟩ hdr;dsimp only at hsr
 have hjr:=zR2 k8 (zB8 (zBV x y) ((zDz gtI (wD c.window l1 l2) (zBV x y)).getD 0 0))
 refine zG (F0:=[(0,pt kk 0),(1,zI x),(2,zI y)]) func56 rfl rfl rfl (.c (.c (.c .n))) (Mem.start hM rfl hnd) ?_
 refine go 6 [] [13,12,0] .n ?_
 intro a w hs;refine zB (v:=zI (zBV x y)) hs (.c rfl (.c rfl .n)) call91 (zFk x y (by omega) (by omega) _) rfl ?_
 refine goL 7 [0] [20,19,7,0] (.c .z .n) ⟨rfl,?_⟩
 intro a w hs;refine zL hs (.c rfl (.c rfl .n)) call92 (.c (.s .z) (.c (.s .z) (.c (.s .z) (.c (.s .z) .n)))) (zYZ wg c.window (zBV x y) v1 v2 v3 l1 l2 l3 (by omega) k1 kl2 kl3 k4 _ (hs.mem.allX (.c (.s .z) (.c (.s .z) (.c (.s .z) (.c (.s .z) .n))))) (hs.mem.ndX (.c (.s .z) (.c (.s .z) (.c (.s .z) (.c (.s .z) .n)))))) rfl ?_;clear hs w a;rintro _ _ a w ⟨rfl,uu1,uu2,uu3,rfl⟩ hs
 revert a w hs
 refine goL 5 [0] [27,7,0] (.c (.s (.s (.s (.s .z)))) .n) ⟨rfl,?_⟩
 intro a w hs;refine zB (v:=.tuple #[zI ((zDz (λp q=>decide (q<p)) (wD c.window l1 l2) (zBV x y)).getD 0 0),.bool (decide (0<(zDz (λp q=>decide (q<p)) (wD c.window l1 l2) (zBV x y)).length))]) hs (.c rfl .n) call81 (zLV _ _ _ _ _ (zDz (λp q=>decide (q<p)) (wD c.window l1 l2) (zBV x y)) _ (hs.mem.del (.s .z)) (zA4 (hs.mem.del (.s (.s (.s .z)))) rfl)) rfl ?_
 obtain ⟨le,hle⟩ : ∃ le,le=(zDz (λp q=>decide (q<p)) (wD c.window l1 l2) (zBV x y)).getD 0 0:=⟨_,rfl⟩;have hler:R64 le:=hle ▸ hsr;rw [← hle] at hjr
 intro a w hs;rw [← hle] at hs
 revert a w hs
 refine goL 5 [] [8,7,0] .n ?_
 intro a w hs
 refine zAQ [.p [] [],.p [0] [],.p [1] [],.p [2] [],.p [3] [0],.p [] [],.p [] [],.v [6,5] (zI (zBV (zBV x y) le)),.y [7,4] (zI 0) [blk jg [zI jj,zI cn] 197] [] [] λvs4=>[blk jg [zI (zEc jj (zBV (zBV x y) le)),zI (IntKind.i64.wrap (cn+1))] 197]] [] hs .n (.c (.s (.s (.s (.s (.s (.s .z)))))) .n) (.c .z .n) (by kernel_rfl) ⟨rfl,λ_ _ _ _ hm hs K=>zB (v:=zI (zBV (zBV x y) le)) hs (.c rfl (.c rfl .n)) call91 (zFk (zBV x y) le (zB8 _ _) (by omega) _) rfl (vk K),⟨(.c .z .n),by kernel_rfl,λ_=>rfl,rfl,rfl⟩,⟨?_,trivial⟩,?_⟩
 ·
  intro a_ w_ R_ rest_ vs4 hm hs ht hx
  have hs0:=hs.bare
  refine zL hs (.c rfl (.c rfl .n)) call93 (.c .z .n) (zYH jg jj cn (zBV (zBV x y) le) (by omega) (zB8 _ _) _ (hs.mem.del .z)) rfl ?_;clear hs;rintro _ _ a w ⟨rfl,rfl⟩ hs
  exact wpList_nil ⟨rfl,_,_,hs0,(.c (.c .r)),hs,rfl⟩
 clear hs w a;intro vs4 a w hs hf
 clear hf
 revert a w hs
 refine goE 0 [] [0] .n ?_
 intro a w hs
 refine zAQ [.p [] [],.p [0] [],.p [1] [],.p [2] [],.p [3] [0],.p [] [],.p [5] [],.p [6] [],.p [7] [],.p [8] [0],.v [9] (zI (zEc jj (zBV (zBV x y) le))),.y [10,4] (zI (zTS c nn (zEc jj (zBV (zBV x y) le)))) [blk dg [zI c.ring,zI c.window,zI c.base,zI c.gain,zI c.least,zI c.most,zI c.slack,zI c.num,zI c.den,zI c.extra,.bool (c.curve),zI nn,zI ch] 195] [] [] λvs6=>[blk dg [zI c.ring,zI c.window,zI c.base,zI c.gain,zI c.least,zI c.most,zI c.slack,zI c.num,zI c.den,zI c.extra,.bool (c.curve),zI (zTS c nn (zEc jj (zBV (zBV x y) le))),zI (dCh c nn (zEc jj (zBV (zBV x y) le)) ch)] 195]] [] hs .n (.c (.s (.s (.s (.s (.s (.s .z)))))) .n) (.c .z .n) (by kernel_rfl) ⟨rfl,rfl,λ_ _ _ _ hm hs K=>zB (v:=zI (zEc jj (zBV (zBV x y) le))) hs (.c rfl .n) call82 (zZO _ _ _ _ (hm.del (.s (.s (.s (.s (.s (.s .z)))))))) rfl (vk K),⟨(.c .z .n),by kernel_rfl,λ_=>rfl,rfl,rfl⟩,⟨?_,trivial⟩,?_⟩
 ·
  intro a_ w_ R_ rest_ vs6 hm hs ht hx
  have hs0:=hs.bare
  refine zL hs (.c rfl (.c rfl .n)) call94 (.c .z .n) (zZk dg c nn ch (zEc jj (zBV (zBV x y) le)) (by omega) hdc (by omega) _ (hs.mem.del .z)) rfl ?_;clear hs;rintro _ _ a w ⟨rfl,rfl⟩ hs
  exact wpList_nil ⟨rfl,_,_,hs0,(.c (.c .r)),hs,rfl⟩
 clear hs w a;intro vs6 a w hs hf
 clear hf
 revert a w hs
 refine goE 1 [] [6] .n ?_
 refine cl (·.reorder (.c .z (.c .z (.c .z (.c .z (.c .z (.c .z (.c .z (.c .z .n))))))))) ?_
 intro a w hs;exact fin hs rfl rfl ⟨rfl,⟨kk,wg,sg,jg,dg,uu1,uu2,uu3,IntKind.i64.wrap (cn+1),dCh c nn (zEc jj (zBV (zBV x y) le)) ch⟩,rfl,by subst hle;rfl⟩
theorem zUR (c:zAS) (kk wg sg jg dg:Nat) (v1 v2 v3:Value) (cn ch:Int) (l1 l2 l3:List Int) (ss tt bb jj nn:Int) (x:Int) (hk:zCb c=0) (hK:KS.ok c (⟨l1,l2,l3,ss,tt,bb,jj,nn⟩ : KS)) (hx : -9223372036854775808≤x∧x≤9223372036854775807) (w0:World) (hM:∀ h∈([blk kk [pt wg 0,pt sg 0,pt jg 0,pt dg 0] 150,blk wg [zI c.window,v1,v2,v3] 191,rwo v1 2 (iV l1),rwo v2 2 (iV l2),rwo v3 2 (iV l3),blk sg [zI c.num,zI c.den,zI ss,zI tt,zI bb] 193,blk jg [zI jj,zI cn] 197,blk dg [zI c.ring,zI c.window,zI c.base,zI c.gain,zI c.least,zI c.most,zI c.slack,zI c.num,zI c.den,zI c.extra,.bool (c.curve),zI nn,zI ch] 195]:List HA),h.p w0) (hnd:(zN [blk kk [pt wg 0,pt sg 0,pt jg 0,pt dg 0] 150,blk wg [zI c.window,v1,v2,v3] 191,rwo v1 2 (iV l1),rwo v2 2 (iV l2),rwo v3 2 (iV l3),blk sg [zI c.num,zI c.den,zI ss,zI tt,zI bb] 193,blk jg [zI jj,zI cn] 197,blk dg [zI c.ring,zI c.window,zI c.base,zI c.gain,zI c.least,zI c.most,zI c.slack,zI c.num,zI c.den,zI c.extra,.bool (c.curve),zI nn,zI ch] 195]).Nodup):Calls Tryz.prog 59 #[pt kk 0,.int .i64 x] w0 (Ret w0 (zN [blk kk [pt wg 0,pt sg 0,pt jg 0,pt dg 0] 150,blk wg [zI c.window,v1,v2,v3] 191,rwo v1 2 (iV l1),rwo v2 2 (iV l2),rwo v3 2 (iV l3),blk sg [zI c.num,zI c.den,zI ss,zI tt,zI bb] 193,blk jg [zI jj,zI cn] 197,blk dg [zI c.ring,zI c.window,zI c.base,zI c.gain,zI c.least,zI c.most,zI c.slack,zI c.num,zI c.den,zI c.extra,.bool (c.curve),zI nn,zI ch] 195]) λu N=>u = .tuple #[zI (kTm c (⟨l1,l2,l3,ss,tt,bb,jj,nn⟩ : KS) x),.bool (decide (0<l2.length))]∧∃ p':KP,p'.k=kk∧N=zaI c p' (zLF c (⟨l1,l2,l3,ss,tt,bb,jj,nn⟩ : KS) x)):=by
 have hck:=zFh hk;have hdc:=hck.2.1;have hdd:=zH0 hdc;have hsc:=hck.2.2.1;have hc:=hsc
 obtain ⟨k1,k2,k3,k4,k5,k6,k7,k8,k9⟩:=hK;dsimp only at k1 k2 k3 k4 k5 k6 k7 k8 k9
 have kl2:=k2.length_le;have kl3:=k3.length_le;have kr2:=zKK (λx hx=>k5 x (k2.subset hx))
 refine zG (F0:=[(0,pt kk 0),(1,zI x)]) func59 rfl rfl rfl (.c (.c .n)) (Mem.start hM rfl hnd) ?_
 refine go 3 [] [11,0,1] .n ?_
 intro a w hs;refine zB (v:=.tuple #[zI (l2.getD 0 0),.bool (decide (0<l2.length))]) hs (.c rfl .n) call46 (zVn c _ _ _ _ _ _ _ _ l2 _ (hs.mem.del .z) (hs.mem.del (.s .z)) (zA4 (hs.mem.del (.s (.s (.s .z)))) rfl)) rfl ?_
 refine goL 7 [] [16,6,0,1] .n ?_
 refine ifG rfl (λc_1=>?_) (λc_1=>?_)
 ·
  refine go 2 [] [5,4] .n ?_
  refine cl (·.reorder (.c .z (.c .z (.c .z (.c .z (.c .z (.c .z (.c .z (.c .z .n))))))))) ?_
  intro a w hs;exact zBO hs rfl rfl rfl ⟨by unfold kTm;rw [if_neg (show ¬ 0<l2.length by assumption)];rw [show decide (0<l2.length)=false from decide_eq_false (by assumption)];first | done | rfl,⟨kk,wg,sg,jg,dg,v1,v2,v3,cn,ch⟩,rfl,by unfold zLF;rw [if_neg (show ¬ 0<l2.length by assumption)];rfl⟩
 refine go 0 [] [6,0,1] .n ?_
 intro a w hs
 refine zAQ [.p [] [],.p [0] [],.p [1] [],.p [2] [],.p [3] [0],.p [] [],.p [] [],.p [] [],.v [7,6] (zI (zBV x (l2.getD 0 0))),.p [] [],.v [9] (zI nn),.v [10,8] (zI (zBV (zBV x (l2.getD 0 0)) nn)),.y [11,5,4] (.tuple #[zI (sS c.num c.den ss tt bb x (zBV (zBV x (l2.getD 0 0)) nn)),zI 0]) [blk sg [zI c.num,zI c.den,zI ss,zI tt,zI bb] 193] [] [] λvs2=>[blk sg [zI c.num,zI c.den,zI (sS c.num c.den ss tt bb x (zBV (zBV x (l2.getD 0 0)) nn)),zI (sT tt bb x),zI 1] 193],.p [12] [],.p [13] [],.p [13] [],.p [14] [],.p [15] []] [16] hs .n (.c (.s (.s (.s (.s (.s .z))))) .n) (.c .z .n) (by kernel_rfl) ⟨rfl,λ_ _ _ _ hm hs K=>zB (v:=zI (zBV x (l2.getD 0 0))) hs (.c rfl (.c rfl .n)) call91 (zFk x (l2.getD 0 0) (by omega) (by omega) _) rfl (vk K),λ_ _ _ _ hm hs K=>zB (v:=zI nn) hs (.c rfl .n) call48 (zVv c _ _ _ _ _ _ _ _ (hm.del .z) (hm.del (.s (.s (.s (.s (.s (.s .z)))))))) rfl (vk K),λ_ _ _ _ hm hs K=>zB (v:=zI (zBV (zBV x (l2.getD 0 0)) nn)) hs (.c rfl (.c rfl .n)) call91 (zFk (zBV x (l2.getD 0 0)) nn (zB8 _ _) (by omega) _) rfl (vk K),⟨(.c .z .n),by kernel_rfl,λ_=>rfl,rfl,rfl⟩,⟨?_,trivial⟩,?_⟩
 ·
  intro a_ w_ R_ rest_ vs2 hm hs ht hx
  have hs0:=hs.bare
  refine zL hs (.c rfl (.c rfl (.c rfl .n))) call99 (.c .z .n) (zba sg c.num c.den ss tt bb x (zBV (zBV x (l2.getD 0 0)) nn) (by omega) (by omega) (by omega) (zB8 _ _) (by omega) _ (hs.mem.del .z)) rfl ?_;clear hs;rintro _ _ a w ⟨rfl,rfl⟩ hs
  exact wpList_nil ⟨rfl,_,_,hs0,(.c (.c (.c .r))),hs,rfl⟩
 clear hs w a;intro vs2 a w hs hf
 clear hf
 revert a w hs
 refine goE 3 [] [5,4] .n ?_
 refine cl (·.reorder (.c .z (.c .z (.c .z (.c .z (.c .z (.c (.s (.s .z)) (.c .z (.c .z .n))))))))) ?_
 intro a w hs;exact zBO hs rfl rfl rfl ⟨by unfold kTm;rw [if_pos (show 0<l2.length by assumption)];rw [show decide (0<l2.length)=true from decide_eq_true (by assumption)];first | done | rfl,⟨kk,wg,sg,jg,dg,v1,v2,v3,cn,ch⟩,rfl,by unfold zLF;rw [if_pos (show 0<l2.length by assumption)];rfl⟩
theorem zT6 (c:zAS) (hk:zCb c≠0) (w0:World):Calls Tryz.prog 37 #[.agg #[zI c.ring,zI c.window,zI c.base,zI c.gain,zI c.least,zI c.most,zI c.slack,zI c.num,zI c.den,zI c.extra,.bool (c.curve)]] w0 (zAh w0 (.tuple #[.pointer none,nI (zCb c)])):=by
 refine zG (F0:=[(0,.agg #[zI c.ring,zI c.window,zI c.base,zI c.gain,zI c.least,zI c.most,zI c.slack,zI c.num,zI c.den,zI c.extra,.bool (c.curve)])]) func37 rfl rfl rfl (.c .n) (Mem.nil _) ?_
 refine go 4 [0,0] [13,1] .n (λg1=>⟨rfl,?_⟩)
 intro a w hs;refine zB (v:=nI (zCb c)) hs (.c rfl .n) call67 (zM3 c _) rfl ?_
 refine goL 3 [] [16,4,1] .n ?_
 refine ifG rfl (λc_2=>?_) (λc_2=>?_)
 ·
  refine go 3 [] [3,2] .n ?_
  refine cl (·.drop (.c .z .n)) ?_
  intro a w hs;exact zBO hs rfl rfl rfl ⟨rfl,rfl⟩
 exfalso;omega
theorem zY6 (c:zAS) (hk:zCb c=0) (w0:World):Calls Tryz.prog 37 #[.agg #[zI c.ring,zI c.window,zI c.base,zI c.gain,zI c.least,zI c.most,zI c.slack,zI c.num,zI c.den,zI c.extra,.bool (c.curve)]] w0 (Ret w0 [] λu N=>∃ p:KP,u = .tuple #[pt p.k 0,.int .i64 0]∧N=[zGW c p (K0 c)]):=by
 have hck:=zFh hk;have hdc:=hck.2.1;have hsc:=hck.2.2.1
 refine zG (F0:=[(0,.agg #[zI c.ring,zI c.window,zI c.base,zI c.gain,zI c.least,zI c.most,zI c.slack,zI c.num,zI c.den,zI c.extra,.bool (c.curve)])]) func37 rfl rfl rfl (.c .n) (Mem.nil _) ?_
 refine go 4 [0,0] [13,1] .n (λg1=>⟨rfl,?_⟩)
 intro a w hs;refine zB (v:=nI (zCb c)) hs (.c rfl .n) call67 (zM3 c _) rfl ?_
 refine goL 3 [] [16,4,1] .n ?_
 refine ifG rfl (λc_2=>?_) (λc_2=>?_)
 ·
  exfalso;omega
 refine go 2 [0] [20,1] (.c .z .n) ⟨rfl,?_⟩
 intro a w hs;refine zL hs (.c rfl .n) call68 .n (zX0 c.window ⟨by omega,by omega⟩ _) rfl ?_;clear hs w a;rintro _ _ a w ⟨g3,rfl,rfl⟩ hs
 revert a w hs
 refine goL 9 [0,0] [28,26,6,5,1] (.c (.s .z) .n) ⟨rfl,rfl,?_⟩
 intro a w hs;refine zL hs (.c rfl (.c rfl .n)) call69 .n (zUh c.num c.den hsc _) rfl ?_;clear hs w a;rintro _ _ a w ⟨g4,rfl,rfl⟩ hs
 revert a w hs
 refine goL 6 [0] [33,8,7,6,5] (.c (.s .z) .n) ⟨rfl,?_⟩
 intro a w hs;refine zL hs (.c rfl .n) call70 .n (zY3 c hdc _) rfl ?_;clear hs w a;rintro _ _ a w ⟨g5,rfl,rfl⟩ hs
 revert a w hs
 refine goL 11 [] [42,41,40,9,7,5] .n (λg6=>?_)
 intro a w hs;refine zCA 3 ?_
 revert a w hs
 refine go 2 [] [42,41,40,9,7,5] .n ?_
 intro a w hs;refine zA9 (j:=0) hs rfl rfl (zAJ (m:=3) (size:=1) (hs.mem.del .z) rfl (by decide)) (by decide) (by omega) underlying144 sizeOf34 rfl ?_
 intro a w hs;refine zBf (u:=zI 0) hs rfl (zAJ (m:=3) (size:=1) (hs.mem.del .z) rfl (by decide)) (by rfl) isAgg34 rfl ?_
 refine goL 6 [] [42,41,40,9,7,5] .n ⟨by decide,?_⟩
 intro a w hs;refine zAL ?_
 revert a w hs
 refine go 2 [] [42,41,40,9,7,5] .n ?_
 intro a w hs;refine zA9 (j:=1) hs rfl rfl (zAJ (m:=3) (size:=1) (hs.mem.del .z) rfl (by decide)) (by decide) (by omega) underlying144 sizeOf34 rfl ?_
 intro a w hs;refine zBf (u:=zI 0) hs rfl (zAJ (m:=3) (size:=1) (hs.mem.del .z) rfl (by decide)) (by rfl) isAgg34 rfl ?_
 refine goL 6 [] [42,41,40,9,7,5] .n ⟨by decide,?_⟩
 intro a w hs;refine zAL ?_
 revert a w hs
 refine go 2 [] [42,41,40,9,7,5] .n ?_
 intro a w hs;refine zA9 (j:=2) hs rfl rfl (zAJ (m:=3) (size:=1) (hs.mem.del .z) rfl (by decide)) (by decide) (by omega) underlying144 sizeOf34 rfl ?_
 intro a w hs;refine zBf (u:=zI 0) hs rfl (zAJ (m:=3) (size:=1) (hs.mem.del .z) rfl (by decide)) (by rfl) isAgg34 rfl ?_
 refine goL 6 [] [42,41,40,9,7,5] .n ⟨by decide,?_⟩
 intro a w hs;refine zAL ?_
 revert a w hs
 refine go 4 [] [51,50,9] .n ?_
 intro a w hs;refine zL hs .n call71 .n (zZq _) rfl ?_;clear hs w a;rintro _ _ a w ⟨g7,rfl,rfl⟩ hs
 revert a w hs
 refine goL 6 [0] [3,2] .n (λg8=>?_)
 refine cl (·.drop (.c (.s (.s (.s (.s .z)))) (.c (.s (.s .z)) .n))) ?_
 refine cl (·.addO 2) ?_
 refine cl (·.addO 2) ?_
 refine cl (·.addO 2) ?_
 refine cl (·.reorder (.c (.s (.s (.s .z))) (.c (.s (.s (.s (.s (.s (.s .z)))))) (.c .z (.c .z (.c .z (.c (.s (.s .z)) (.c .z (.c .z .n))))))))) ?_
 intro a w hs;replace hs:=hs.memTo hs.mem.sep
 exact zBO hs rfl rfl rfl ⟨⟨g8,g3,g4,g7,g5,.slice none 0 0,.slice none 0 0,.slice none 0 0,0,0⟩,rfl,rfl⟩
theorem zXA (c:zAS) (p:KP) (K:KS) (x y:Int) (hk:zCb c=0) (hK:K.ok c) (hx:R64 x) (hy:R64 y) (w0:World) (hp:(zGW c p K).p w0):Calls Tryz.prog 56 #[pt p.k 0,.int .i64 x,.int .i64 y] w0 (Ret w0 (zN [zGW c p K]) λu N=>u = .int .i64 0∧∃ p':KP,N=[zGW c (p'.on p.k) (zYh c K x y)]):=by
 have hh:=hp;obtain ⟨hall,hnd⟩:=hh;rw [show zN [zGW c p K]=zN (zaI c p K) from zBw _]
 obtain ⟨k,wg,sg,jg,dg,v1,v2,v3,cn,ch⟩:=p;obtain ⟨l1,l2,l3,s,t,b,j,now⟩:=K
 refine (zUd c k wg sg jg dg v1 v2 v3 cn ch l1 l2 l3 s t b j now x y hk hK hx hy w0 hall hnd).mono ?_
 rintro e w ⟨u,N,rfl,⟨rfl,p',h1,rfl⟩,hM⟩
 exact ⟨_,_,rfl,⟨rfl,p',by subst h1;rfl⟩,hM.sep⟩
theorem zXt (c:zAS) (p:KP) (K:KS) (x:Int) (hk:zCb c=0) (hK:K.ok c) (hx:R64 x) (w0:World) (hp:(zGW c p K).p w0):Calls Tryz.prog 59 #[pt p.k 0,.int .i64 x] w0 (Ret w0 (zN [zGW c p K]) λu N=>u = .tuple #[zI (kTm c K x),.bool (decide (0<K.l2.length))]∧∃ p':KP,N=[zGW c (p'.on p.k) (zLF c K x)]):=by
 have hh:=hp;obtain ⟨hall,hnd⟩:=hh;rw [show zN [zGW c p K]=zN (zaI c p K) from zBw _]
 obtain ⟨k,wg,sg,jg,dg,v1,v2,v3,cn,ch⟩:=p;obtain ⟨l1,l2,l3,s,t,b,j,now⟩:=K
 refine (zUR c k wg sg jg dg v1 v2 v3 cn ch l1 l2 l3 s t b j now x hk hK hx w0 hall hnd).mono ?_
 rintro e w ⟨u,N,rfl,⟨rfl,p',h1,rfl⟩,hM⟩
 exact ⟨_,_,rfl,⟨rfl,p',by subst h1;rfl⟩,hM.sep⟩
theorem zYb {v : Value} {n vb : Nat} {xs vs : List Value} {tv : Nat} {w : World} (hr : (row v 214 4 n xs).p w) (hb : (blk vb vs tv).p w) (hv : vs.length = 4) (h1v : ∀ u ∈ vs, u.oneCell' = true) (hn : n ≤ 100000) :
   Calls Tryz.prog 131 #[v,.int .i64 n,.slice (some ⟨vb,0,none⟩) 1 1] w (Ret w (zN [row v 214 4 n xs]) λu N=>N=[row u 214 4 (n+1) (xs++vs)]):=by
 have hsrc:=zEE hb 0 vs (λj u hj=>by simpa using hj)
 have hne:¬ ((1:Int)=0):=by omega
 have fin:∀ (v':Value) (w':World),w'.ownsRow 0 214 4 v' (n+1) (xs++vs)→w.grownBy w' v.ownBlock→(v'.ownBlock=v.ownBlock∨v'.ownBlock=some w.heap.size)→Ret w (zN [row v 214 4 n xs]) (λu N=>N=[row u 214 4 (n+1) (xs++vs)]) (.returned v') w' :=
   λv' w' hown hg hat=>⟨_,_,rfl,rfl,Go.Sx.mem_grown hg hown (hat.imp id λh=>⟨_,h,Nat.le_refl _⟩) (xs:=xs) (n:=n)⟩
 have F:Aside _:=fin
 have how:=hr
 have HR:Aside _:=hr
 clear fin hr
 obtain ⟨hl,hcs⟩:=how
 rcases hcs with ⟨rfl,rfl⟩ | ⟨g,cap,cur,rfl,_,hg,hc,hm,hs,ht⟩
 · go_enter func131,Tryz.ntmps131
   go_wp2_with (at_builtin;refine wpList_append_own_at _ rfl _ _ 198 rfl 0 214 Tryz.t214 _ 4 48 underlying198 rfl rfl rfl rfl (by decide) (by decide) _ _ xs rfl HR.out ⟨vb,0,none⟩ 1 1 vs rfl hv hsrc h1v (by simp only [maxLen];omega) (by omega) (Nat.zero_le _) ?_;intro v' w' hown hgr _ hat)
   go_ret
   exact F.out _ _ hown hgr hat
 · simp only [maxLen] at hm
   clear hg hs ht hl
   go_enter func131,Tryz.ntmps131
   go_wp2_with (at_builtin;refine wpList_append_own_at _ rfl _ _ 198 rfl 0 214 Tryz.t214 _ 4 48 underlying198 rfl rfl rfl rfl (by decide) (by decide) _ _ xs rfl HR.out ⟨vb,0,none⟩ 1 1 vs rfl hv hsrc h1v (by simp only [maxLen];omega) (by omega) (Nat.zero_le _) ?_;intro v' w' hown hgr _ hat)
   all_goals (go_ret;exact F.out _ _ hown hgr hat)
theorem zVF {b n i c vb tv : Nat} {xs sp vs : List Value} {w : World} (hg : (blk b (xs ++ sp) 214).p w) (hl : xs.length = n * 4) (hi : i < n) (hnc : n ≤ c) (hroom : c < n + 1) (hb : (blk vb vs tv).p w) (hv : vs.length = 4) (h1c : ∀ u ∈ xs, u.oneCell' = true) (h1v : ∀ u ∈ vs, u.oneCell' = true) (hn : n ≤ 100000) :
   Calls Tryz.prog 131 #[.slice (some ⟨b,0,none⟩) n c,.int .i64 i,.slice (some ⟨vb,0,none⟩) 1 1] w (Ret w [] λu N=>N=[row u 214 4 (n+1) (xs.take (i*4)++(vs++xs.drop (i*4)))]):=by
 have hne:¬ ((1:Int)=0):=by omega
 have hz2:¬ ((i:Int)=(n:Int)):=by omega
 have hz3:(c:Int)<(n:Int)+1:=by omega
 have hbw:b<w.heap.size:=(Array.getElem?_eq_some_iff.1 hg).1
 have hvw:vb<w.heap.size:=(Array.getElem?_eq_some_iff.1 hb).1
 have hold:(Builtin.firstCells 4 i (.slice (some ⟨b,0,none⟩) i c)).run Tryz.prog w.drew = .ok (xs.take (i*4)).toArray w.drew :=
   run_firstCells_some w.drew 4 i ⟨b,0,none⟩ i c (xs.take (i*4)) (by rw [List.length_take];omega) (λj v hj=>by
     rw [List.getElem?_take] at hj
     split at hj
     · exact zEE (w:=w) hg 0 xs (λj u hj=>by rw [Nat.zero_add,List.getElem?_append_left (List.getElem?_eq_some_iff.1 hj).1];exact hj) j v hj
     · cases hj)
 obtain ⟨G,hG⟩ : ∃ G,G=grownCap w (n+1) c 214:=⟨_,rfl⟩
 have hik:i+(n+1-i)=n+1:=by omega
 have hrz:∀ ty,(Builtin.append_ #[198,3] ty #[.slice (some ⟨b,0,none⟩) i c,zI ((n:Int)+1-(i:Int))]).run Tryz.prog w = .ok (.slice (some ⟨w.heap.size,0,none⟩) (n+1) G) (w.drew.alloc (.cells ((xs.take (i*4)).toArray++Builtin.zeroCells (.agg #[.int .i64 0,.int .i64 0,.int .i64 0,.slice none 0 0]:Value).cells (n+1-i)++Builtin.zeroCells (.agg #[.int .i64 0,.int .i64 0,.int .i64 0,.slice none 0 0]:Value).cells (G-(n+1))) 214)):=λty=>by
   have h:=Lib.run_append_grow_zeros (P:=Tryz.prog) w 198 3 ty 214 Tryz.t214 (.agg #[.int .i64 0,.int .i64 0,.int .i64 0,.slice none 0 0]:Value) .i64 .i64 underlying198 underlying3 rfl rfl (some ⟨b,0,none⟩) i c (xs.take (i*4)) hold (n+1-i) (by omega) (by decide) (by omega) (by omega) (by show _*48≤_;omega) (by show _*48≤_;rw [hik];exact growslice_fits hroom (by omega))
   rw [hik,← hG] at h
   rw [show (n:Int)+1-(i:Int)=((n+1-i:Nat):Int) by omega]
   exact h
 have hGn:n+1≤G:=by rw [hG];exact grownCap_ge w _ _ _
 have hG63:G≤maxLen:=by rw [hG];exact grownCap_le_maxLen w (n+1) c 214 (by unfold maxLen;omega)
 obtain ⟨R1,hR1⟩ : ∃ R1:List Value,(xs.take (i*4)).toArray++Builtin.zeroCells (.agg #[.int .i64 0,.int .i64 0,.int .i64 0,.slice none 0 0]:Value).cells (n+1-i)++Builtin.zeroCells (.agg #[.int .i64 0,.int .i64 0,.int .i64 0,.slice none 0 0]:Value).cells (G-(n+1))=R1.toArray:=⟨_,(Array.toArray_toList).symm⟩
 rw [hR1] at hrz
 obtain ⟨Zs,hZs,hZl⟩ : ∃ Zs:List Value,R1=xs.take (i*4)++Zs∧Zs.length=(G-i)*4:=by
   refine ⟨(Builtin.zeroCells (.agg #[.int .i64 0,.int .i64 0,.int .i64 0,.slice none 0 0]:Value).cells (n+1-i)).toList++(Builtin.zeroCells (.agg #[.int .i64 0,.int .i64 0,.int .i64 0,.slice none 0 0]:Value).cells (G-(n+1))).toList,?_,?_⟩
   · have:=congrArg Array.toList hR1
     simpa using this.symm
   · have e4:(.agg #[.int .i64 0,.int .i64 0,.int .i64 0,.slice none 0 0]:Value).cells.size=4:=rfl
     rw [List.length_append,Array.length_toList,Array.length_toList,size_zeroCells,size_zeroCells,e4];omega
 clear hR1 hG hold
 have e1:R1=xs.take (i*4)++(Zs.take 4++((Zs.drop 4).take ((n-i)*4)++(Zs.drop 4).drop ((n-i)*4))):=by rw [List.take_append_drop,List.take_append_drop];exact hZs
 obtain ⟨C,hC⟩ : ∃ C,C=(Zs.drop 4).drop ((n-i)*4):=⟨_,rfl⟩
 have hCl:C.length=(G-(n+1))*4:=by rw [hC];simp only [List.length_drop];omega
 rw [← hC] at e1
 have hAl:(xs.take (i*4)).length=i*4:=by rw [List.length_take];omega
 have hDl:(xs.drop (i*4)).length=(n-i)*4:=by rw [List.length_drop];omega
 obtain ⟨A,hA⟩ : ∃ A,A=xs.take (i*4):=⟨_,rfl⟩
 obtain ⟨D,hD⟩ : ∃ D,D=xs.drop (i*4):=⟨_,rfl⟩
 have hAD:xs=A++D:=by rw [hA,hD,List.take_append_drop]
 rw [← hA] at e1 hAl ⊢
 rw [← hD] at hDl ⊢
 have h1d:∀ u∈D,u.oneCell'=true:=λu hu=>h1c u (by rw [hAD];simp [hu])
 obtain ⟨R2,hR2⟩ : ∃ R2,R2=A++(vs++((Zs.drop 4).take ((n-i)*4)++C)):=⟨_,rfl⟩
 obtain ⟨R3,hR3⟩ : ∃ R3,R3=(A++(vs++D))++C:=⟨_,rfl⟩
 have s2:zNZ R1 (i*4) vs=R2:=by rw [e1,hR2];exact zGt _ _ _ _ _ hAl (by rw [List.length_take];omega)
 have s3:zNZ R2 ((i+1)*4) D=R3:=by
   rw [hR2,hR3,← List.append_assoc A vs]
   rw [zGt (A++vs) _ C _ D (by rw [List.length_append];omega) (by rw [List.length_take,List.length_drop];omega)]
   simp only [List.append_assoc]
 have hR1l:R1.length=G*4:=by rw [hZs,List.length_append,hZl,← hA];omega
 have hR2l:R2.length=G*4:=by rw [hR2];simp only [List.length_append,List.length_take,List.length_drop];omega
 have hcpA:∀ W:World,W.heap[w.heap.size]? = some (.cells R1.toArray 214 (0,0))→W.heap[vb]? = some (.cells vs.toArray tv (0,0))→∀ ty dc,(Builtin.copy_ #[198,198] ty #[.slice (some ⟨w.heap.size,i*4,none⟩) (n+1-i) dc,.slice (some ⟨vb,0,none⟩) 1 1]).run Tryz.prog W = .ok (goInt 1) (W.setRow w.heap.size R2.toArray):=λW h1 h2 ty dc=>by
   have hm:Nat.min 1 (n+1-i)=1:=Nat.min_eq_left (by omega)
   have h:=zGF (P:=Tryz.prog) W 198 198 ty 214 4 w.heap.size (i*4) (n+1-i) dc ⟨vb,0,none⟩ 1 1 R1 214 vs Tryz.t214 underlying198 rfl rfl h1 (by rw [hm];omega) (zEE h2 0 vs (λj u hj=>by simpa using hj)) (by omega) h1v
   rw [hm,s2] at h
   exact h
 have hcpB:∀ W:World,W.heap[w.heap.size]? = some (.cells R2.toArray 214 (0,0))→W.heap[b]? = some (.cells (xs++sp).toArray 214 (0,0))→∀ ty dc sc,(Builtin.copy_ #[198,198] ty #[.slice (some ⟨w.heap.size,(i+1)*4,none⟩) (n+1-(i+1)) dc,.slice (some ⟨b,i*4,none⟩) (n-i) sc]).run Tryz.prog W = .ok (goInt ((n-i:Nat):Int)) (W.setRow w.heap.size R3.toArray):=λW h1 h2 ty dc sc=>by
   have hm:Nat.min (n-i) (n+1-(i+1))=n-i:=Nat.min_eq_left (by omega)
   have h:=zGF (P:=Tryz.prog) W 198 198 ty 214 4 w.heap.size ((i+1)*4) (n+1-(i+1)) dc ⟨b,i*4,none⟩ (n-i) sc R2 214 D Tryz.t214 underlying198 rfl rfl h1 (by rw [hm];exact hDl)
     (zEE h2 (i*4) D (λj u hj=>by rw [hAD,List.append_assoc,← hAl,List.getElem?_append_right (by omega),Nat.add_sub_cancel_left,List.getElem?_append_left (List.getElem?_eq_some_iff.1 hj).1];exact hj)) (by omega) h1d
   rw [hm,s3] at h
   exact h
 have w1:w.grownBy (w.drew.alloc (.cells R1.toArray 214)) none:=(zO3 w).alloc' _
 have a1:(w.drew.alloc (.cells R1.toArray 214)).heap[w.heap.size]? = some (.cells R1.toArray 214 (0,0)):=heap_alloc_new w.drew _
 have a2:(w.drew.alloc (.cells R1.toArray 214)).heap[vb]? = some (.cells vs.toArray tv (0,0)):=(w1.block vb hvw (by simp)).trans hb
 have w2:=w1.setRow' (Nat.le_refl _) R2.toArray
 have a3:((w.drew.alloc (.cells R1.toArray 214)).setRow w.heap.size R2.toArray).heap[w.heap.size]? = some (.cells R2.toArray 214 (0,0)):=setRow_heap _ _ _ _ _ _ a1
 have a4:((w.drew.alloc (.cells R1.toArray 214)).setRow w.heap.size R2.toArray).heap[b]? = some (.cells (xs++sp).toArray 214 (0,0)):=(w2.block b hbw (by simp)).trans hg
 have w3:=(w2.drew').setRow' (Nat.le_refl _) R3.toArray
 have a5:((w.drew.alloc (.cells R1.toArray 214)).setRow w.heap.size R2.toArray).drew.heap[w.heap.size]? = some (.cells R2.toArray 214 (0,0)):=a3
 have fin:=Go.Sx.mem_new (n':=n+1) (xs':=A++(vs++D)) (size:=4) (e:=214) (v':=.slice (some ⟨w.heap.size,0,none⟩) (n+1) G) w3 (zG2 (sp:=C) (by show _=_;rw [← hR3];exact setRow_heap _ _ _ _ _ _ a5) (by simp only [List.length_append];omega) (by simp only [List.length_append];omega) hGn hG63) (λk hk=>by simp [Value.ownBlock] at hk;omega)
 have FIN:Aside _:=fin
 have HZ:Aside _:=hrz
 have HA:Aside _:=hcpA
 have HB:Aside _:=hcpB
 have A1:Aside _:=a1
 have A2:Aside _:=a2
 have A3:Aside _:=a3
 have A4:Aside _:=a4
 simp only [maxLen] at hG63
 have hGi:¬ (G=i):=by omega
 have hGim:¬ (G=i+1):=by omega
 have hci:¬ (c=i):=by omega
 have hin:i≤n:=by omega
 have htn:((i:Int)+1).toNat=i+1:=by omega
 have hb1:(0:Int)≤(i:Int)+1:=by omega
 have hb3:(i:Int)≤(n:Int):=by omega
 have hw1:IntKind.i64.wrap ((i:Int)+1)=(i:Int)+1:=by rw [IntKind.wrap_i64];omega
 have mixed:Tryz.prog.follows Departure.mixedOrders=true:=by kernel_rfl
 clear fin hrz hcpA hcpB a1 a2 a3 a4 a5 w1 w2 w3 hg hb hAD hA hD e1 hZs hZl s2 s3 hR1l hR2l hR2 hR3 hC hCl hAl hDl h1c h1v h1d hik hl hv
 go_enter func131,Tryz.ntmps131
 go_wp2_with (first
   | (at_builtin;refine Lib.wpList_append_run _ rfl _ _ _ _ rfl _ _ rfl rfl _ _ (HZ.out _) ?_)
   | (refine Go.Proofs.wpList_copy_runI _ rfl _ _ 198 198 rfl _ _ rfl rfl (HA.out _ (by exact A1.out) (by exact A2.out) _ _) ?_)
   | (refine Go.Proofs.wpList_copy_runI _ rfl _ _ 198 198 rfl _ _ rfl rfl (HB.out _ (by exact A3.out) (by exact A4.out) _ _ _) ?_))
 go_region_law_o (refine Go.Proofs.step_copy_runI rfl _ _ 198 198 rfl (.slice (some ⟨w.heap.size,(i+1)*4,none⟩) (n+1-(i+1)) (G-(i+1))) (.slice (some ⟨b,i*4,none⟩) (n-i) (c-i)) (by simp [Act.eval,Act.put]) (by simp [Act.eval,Act.put]) (HB.out _ (by exact A3.out) (by exact A4.out) _ (G-(i+1)) (c-i)) ?_)
 go_wp2
 go_ret
 exact ⟨_,_,rfl,rfl,FIN.out⟩
theorem zSh {b n i c vb tv : Nat} {xs sp vs : List Value} {w : World} (hg : (blk b (xs ++ sp) 214).p w) (hl : xs.length = n * 4) (hlc : (xs ++ sp).length = c * 4) (hcm : c ≤ maxLen) (hi : i < n) (hroom : n + 1 ≤ c) (hb : (blk vb vs tv).p w) (hvb : vb ≠ b) (hv : vs.length = 4) (h1c : ∀ u ∈ xs, u.oneCell' = true) (h1v : ∀ u ∈ vs, u.oneCell' = true) (hn : n ≤ 100000) :
   Calls Tryz.prog 131 #[.slice (some ⟨b,0,none⟩) n c,.int .i64 i,.slice (some ⟨vb,0,none⟩) 1 1] w (Ret w [b] λu N=>N=[row u 214 4 (n+1) (xs.take (i*4)++(vs++xs.drop (i*4)))]):=by
 have hne:¬ ((1:Int)=0):=by omega
 have hz2:¬ ((i:Int)=(n:Int)):=by omega
 have hz3:¬ (c:Int)<(n:Int)+1:=by omega
 have hov:∀ lb cb,(callFunc 193 #[.slice (some ⟨vb,0,none⟩) 1 1,.slice (some ⟨b,(i+1)*4,none⟩) lb cb]).run Tryz.prog w = .ok (.value (.bool false)) w:=λlb cb=>by
   rw [run_callFunc_extern func193 (by kernel_rfl) (by kernel_rfl) (by kernel_rfl) (e:=Extern.SlicesOverlaps.overlaps #[198,198] #[4]) (by kernel_rfl),
     Lib.run_overlaps_apart w 198 4 214 underlying198 4 sizeOf214 ⟨vb,0,none⟩ ⟨b,(i+1)*4,none⟩ 1 1 lb cb hvb tv 214 4 (c*4) (by simp [World.shape?,(show w.heap[vb]? = _ from hb),hv]) (by simp [World.shape?,(show w.heap[b]? = _ from hg),← hlc]) (by omega) (by simp [World.frozen?,(show w.heap[vb]? = _ from hb)]) (by simp [World.frozen?,(show w.heap[vb]? = _ from hb)])]
   rfl
 obtain ⟨S1,S2,rfl,hS1⟩ : ∃ S1 S2,sp=S1++S2∧S1.length=4:=⟨sp.take 4,sp.drop 4,(List.take_append_drop _ _).symm,by rw [List.length_append] at hlc;rw [List.length_take];omega⟩
 obtain ⟨A,hA⟩ : ∃ A,A=xs.take (i*4):=⟨_,rfl⟩
 obtain ⟨D,hD⟩ : ∃ D,D=xs.drop (i*4):=⟨_,rfl⟩
 have hAD:xs=A++D:=by rw [hA,hD,List.take_append_drop]
 have hAl:A.length=i*4:=by rw [hA,List.length_take];omega
 have hDl:D.length=(n-i)*4:=by rw [hD,List.length_drop];omega
 rw [← hA,← hD]
 have h1d:∀ u∈D,u.oneCell'=true:=λu hu=>h1c u (by rw [hAD];simp [hu])
 obtain ⟨D1,D2,hDD,hD1⟩ : ∃ D1 D2,D=D1++D2∧D1.length=4:=⟨D.take 4,D.drop 4,(List.take_append_drop _ _).symm,by rw [List.length_take];omega⟩
 obtain ⟨R1,hR1⟩ : ∃ R1,R1=xs++(S1++S2):=⟨_,rfl⟩
 obtain ⟨R2,hR2⟩ : ∃ R2,R2=A++(D1++(D++S2)):=⟨_,rfl⟩
 obtain ⟨R3,hR3⟩ : ∃ R3,R3=(A++(vs++D))++S2:=⟨_,rfl⟩
 have s2:zNZ R1 ((i+1)*4) D=R2:=by
   have e:R1=(A++D1)++((D2++S1)++S2):=by rw [hR1,hAD,hDD];simp only [List.append_assoc]
   have hD2:D2.length=(n-i)*4-4:=by have:=hDl;rw [hDD,List.length_append] at this;omega
   rw [e,zGt (A++D1) (D2++S1) S2 _ D (by rw [List.length_append];omega) (by rw [List.length_append];omega),hR2]
   simp only [List.append_assoc]
 have s3:zNZ R2 (i*4) vs=R3:=by
   rw [hR2,hR3,zGt A D1 (D++S2) _ vs hAl (by omega)]
   simp only [List.append_assoc]
 have hR1l:R1.length=c*4:=by rw [hR1];exact hlc
 have hR2l:R2.length=c*4:=by rw [← hR1l,hR1,hR2,hAD];simp only [List.length_append];omega
 have hR3l:((A++(vs++D))++S2).length=c*4:=by rw [← hR1l,hR1,hAD];simp only [List.length_append];omega
 rw [← hR1] at hg
 have hcpA:∀ W:World,W.heap[b]? = some (.cells R1.toArray 214 (0,0))→∀ ty dc sc,(Builtin.copy_ #[198,198] ty #[.slice (some ⟨b,(i+1)*4,none⟩) (n+1-(i+1)) dc,.slice (some ⟨b,i*4,none⟩) (n+1-i) sc]).run Tryz.prog W = .ok (goInt ((n-i:Nat):Int)) (W.setRow b R2.toArray):=λW h1 ty dc sc=>by
   have hm:Nat.min (n+1-i) (n+1-(i+1))=n-i:=by rw [show n+1-(i+1)=n-i by omega];exact Nat.min_eq_right (by omega)
   have h:=zGF (P:=Tryz.prog) W 198 198 ty 214 4 b ((i+1)*4) (n+1-(i+1)) dc ⟨b,i*4,none⟩ (n+1-i) sc R1 214 D Tryz.t214 underlying198 rfl rfl h1 (by rw [hm];exact hDl)
     (zEE h1 (i*4) D (λj u hj=>by rw [hR1,hAD,List.append_assoc,← hAl,List.getElem?_append_right (by omega),Nat.add_sub_cancel_left,List.getElem?_append_left (List.getElem?_eq_some_iff.1 hj).1];exact hj)) (by omega) h1d
   rw [hm,s2] at h
   exact h
 have hcpB:∀ W:World,W.heap[b]? = some (.cells R2.toArray 214 (0,0))→W.heap[vb]? = some (.cells vs.toArray tv (0,0))→∀ ty dc,(Builtin.copy_ #[198,198] ty #[.slice (some ⟨b,i*4,none⟩) (n+1-i) dc,.slice (some ⟨vb,0,none⟩) 1 1]).run Tryz.prog W = .ok (goInt 1) (W.setRow b R3.toArray):=λW h1 h2 ty dc=>by
   have hm:Nat.min 1 (n+1-i)=1:=Nat.min_eq_left (by omega)
   have h:=zGF (P:=Tryz.prog) W 198 198 ty 214 4 b (i*4) (n+1-i) dc ⟨vb,0,none⟩ 1 1 R2 214 vs Tryz.t214 underlying198 rfl rfl h1 (by rw [hm];omega) (zEE h2 0 vs (λj u hj=>by simpa using hj)) (by omega) h1v
   rw [hm,s3] at h
   exact h
 have a0:w.drew.heap[b]? = some (.cells R1.toArray 214 (0,0)):=hg
 have a1:(w.drew.setRow b R2.toArray).heap[b]? = some (.cells R2.toArray 214 (0,0)):=setRow_heap _ _ _ _ _ _ a0
 have a2:(w.drew.setRow b R2.toArray).heap[vb]? = some (.cells vs.toArray tv (0,0)):=(setRow_other _ _ _ _ hvb).trans hb
 have fin:Mem w [b] [row (.slice (some ⟨b,0,none⟩) (n+1) c) 214 4 (n+1) (A++(vs++D))] ((w.drew.setRow b R2.toArray).setRow b R3.toArray):=by
   refine ⟨⟨rfl,rfl,rfl,by simp [World.setRow],λk _ hk=>?_⟩,λh hh=>?_,by simp [zN,row,Value.ownBlock],λk hk=>.inl (by simpa [zN,row,Value.ownBlock] using hk)⟩
   · rw [setRow_other _ b k _ (by simpa using hk),setRow_other _ b k _ (by simpa using hk)];rfl
   · simp only [List.mem_singleton] at hh
     subst hh
     exact zG2 (sp:=S2) (by show _=_;rw [← hR3];exact setRow_heap _ _ _ _ _ _ a1) (by simp only [List.length_append];omega) hR3l hroom hcm
 have FIN:Aside _:=fin
 have OV:Aside _:=hov
 have HA:Aside _:=hcpA
 have HB:Aside _:=hcpB
 have A0:Aside _:=a0
 have A1:Aside _:=a1
 have A2:Aside _:=a2
 simp only [maxLen] at hcm
 have hci:¬ (c=i):=by omega
 have hcim:¬ (c=i+1):=by omega
 have hin:i≤n:=by omega
 have htn:((i:Int)+1).toNat=i+1:=by omega
 have htm:((n:Int)+1).toNat=n+1:=by omega
 have hb1:(0:Int)≤(i:Int)+1:=by omega
 have hb3:(i:Int)≤(n:Int):=by omega
 have hb4:(i:Int)≤(n:Int)+1:=by omega
 have hb5:(n:Int)+1≤(c:Int):=by omega
 have hw1:IntKind.i64.wrap ((i:Int)+1)=(i:Int)+1:=by rw [IntKind.wrap_i64];omega
 have hw2:IntKind.i64.wrap ((n:Int)+1)=(n:Int)+1:=by rw [IntKind.wrap_i64];omega
 have mixed:Tryz.prog.follows Departure.mixedOrders=true:=by kernel_rfl
 clear fin hov hcpA hcpB a0 a1 a2 hg hb hAD hA hD hDD s2 s3 hR1l hR2l hR3l hR1 hR2 hR3 hAl hDl h1c h1v h1d hl hlc hv hD1 hS1
 go_enter func131,Tryz.ntmps131
 go_wp2_with (simp only [OV.out])
 go_region_law_o (refine Go.Proofs.step_copy_runI rfl _ _ 198 198 rfl (.slice (some ⟨b,(i+1)*4,none⟩) (n+1-(i+1)) (c-(i+1))) (.slice (some ⟨b,i*4,none⟩) (n+1-i) (c-i)) (by simp [Act.eval,Act.put]) (by simp [Act.eval,Act.put]) (HA.out _ (by exact A0.out) _ (c-(i+1)) (c-i)) ?_)
 go_wp2_with (refine Go.Proofs.wpList_copy_runI _ rfl _ _ 198 198 rfl _ _ rfl rfl (HB.out _ (by exact A1.out) (by exact A2.out) _ _) ?_)
 go_ret
 exact ⟨_,_,rfl,rfl,FIN.out⟩
theorem zSv {b n c : Nat} {xs sp : List Value} {w : World} (hg : (blk b (xs ++ sp) 214).p w) (hl : xs.length = n * 4) (hlc : (xs ++ sp).length = c * 4) (hcm : c ≤ maxLen) (hn2 : 2 ≤ n) (hnc : n ≤ c) (h1c : ∀ u ∈ xs, u.oneCell' = true) (hn : n ≤ 100001) :
   Calls Tryz.prog 132 #[.slice (some ⟨b,0,none⟩) n c,.int .i64 0,.int .i64 1] w (Ret w [b] λu N=>N=[row u 214 4 (n-1) (xs.drop 4)]):=by
 obtain ⟨X,Y,hXY,hX⟩ : ∃ X Y,xs=X++Y∧X.length=(n-1)*4:=⟨xs.take ((n-1)*4),xs.drop ((n-1)*4),(List.take_append_drop _ _).symm,by rw [List.length_take];omega⟩
 have hY:Y.length=4:=by have:=hl;rw [hXY,List.length_append] at this;omega
 obtain ⟨D,hD⟩ : ∃ D,D=xs.drop 4:=⟨_,rfl⟩
 have hDl:D.length=(n-1)*4:=by rw [hD,List.length_drop];omega
 rw [← hD]
 have h1d:∀ u∈D,u.oneCell'=true:=λu hu=>h1c u (List.mem_of_mem_drop (by rw [← hD];exact hu))
 obtain ⟨R1,hR1⟩ : ∃ R1,R1=xs++sp:=⟨_,rfl⟩
 obtain ⟨R2,hR2⟩ : ∃ R2,R2=D++(Y++sp):=⟨_,rfl⟩
 obtain ⟨zs,hzs,hzl,h1z⟩ : ∃ zs:List Value,(Builtin.zeroCells (.agg #[.int .i64 0,.int .i64 0,.int .i64 0,.slice none 0 0]:Value).cells 1).toList=zs∧zs.length=4∧∀ u∈zs,u.oneCell'=true :=
   ⟨[.int .i64 0,.int .i64 0,.int .i64 0,.slice none 0 0],by kernel_rfl,rfl,by intro u hu;simp only [List.mem_cons,List.not_mem_nil,or_false] at hu;rcases hu with rfl | rfl | rfl | rfl<;>rfl⟩
 obtain ⟨R3,hR3⟩ : ∃ R3,R3=D++(zs++sp):=⟨_,rfl⟩
 have s2:zNZ R1 0 D=R2:=by
   rw [hR1,hR2,hXY]
   have:=zGt [] X (Y++sp) 0 D rfl (by omega)
   simpa using this
 have s3:zNZ R2 ((n-1)*4) zs=R3:=by rw [hR2,hR3,zGt D Y sp _ zs hDl (by omega)]
 have hR1l:R1.length=c*4:=by rw [hR1];exact hlc
 have hsp:sp.length=(c-n)*4:=by rw [List.length_append] at hlc;omega
 have hR2l:R2.length=c*4:=by rw [hR2];simp only [List.length_append];omega
 have hR3l:(D++(zs++sp)).length=c*4:=by simp only [List.length_append];omega
 rw [← hR1] at hg
 have hap:∀ W:World,W.heap[b]? = some (.cells R1.toArray 214 (0,0))→∀ ty sc,(Builtin.append_ #[198,198] ty #[.slice (some ⟨b,0,none⟩) 0 c,.slice (some ⟨b,4,none⟩) (n-1) sc]).run Tryz.prog W = .ok (.slice (some ⟨b,0,none⟩) (n-1) c) (W.setRow b R2.toArray):=λW h1 ty sc=>by
   have h:=zM8 (P:=Tryz.prog) W 198 ty 214 4 b 0 0 c ⟨b,4,none⟩ (n-1) sc R1 214 D Tryz.t214 underlying198 rfl rfl h1 hDl (by omega)
     (zEE h1 4 D (λj u hj=>by rw [hR1];rw [hD,List.getElem?_drop] at hj;rw [List.getElem?_append_left (List.getElem?_eq_some_iff.1 hj).1];exact hj)) (by omega) h1d
   rw [Nat.zero_add,show 0+0*4=0 from rfl,s2] at h
   exact h
 have hcl:∀ W:World,W.heap[b]? = some (.cells R2.toArray 214 (0,0))→∀ ty sc,(Builtin.clear_ #[198] ty #[.slice (some ⟨b,(n-1)*4,none⟩) (n-(n-1)) sc]).run Tryz.prog W = .ok (.tuple #[]) (W.setRow b R3.toArray):=λW h1 ty sc=>by
   have h:=zPL (P:=Tryz.prog) W 198 ty 214 b ((n-1)*4) 1 sc R2 214 zs Tryz.t214 (.agg #[.int .i64 0,.int .i64 0,.int .i64 0,.slice none 0 0]:Value) underlying198 rfl rfl hzs (by omega) h1 (by omega) h1z
   rw [s3] at h
   rw [show n-(n-1)=1 by omega]
   exact h
 have a0:w.drew.heap[b]? = some (.cells R1.toArray 214 (0,0)):=hg
 have a1:(w.drew.setRow b R2.toArray).heap[b]? = some (.cells R2.toArray 214 (0,0)):=setRow_heap _ _ _ _ _ _ a0
 have fin:Mem w [b] [row (.slice (some ⟨b,0,none⟩) (n-1) c) 214 4 (n-1) D] ((w.drew.setRow b R2.toArray).setRow b R3.toArray):=by
   refine ⟨⟨rfl,rfl,rfl,by simp [World.setRow],λk _ hk=>?_⟩,λh hh=>?_,by simp [zN,row,Value.ownBlock],λk hk=>.inl (by simpa [zN,row,Value.ownBlock] using hk)⟩
   · rw [setRow_other _ b k _ (by simpa using hk),setRow_other _ b k _ (by simpa using hk)];rfl
   · simp only [List.mem_singleton] at hh
     subst hh
     exact zG2 (sp:=zs++sp) (by show _=_;rw [← hR3];exact setRow_heap _ _ _ _ _ _ a1) hDl hR3l (by omega) hcm
 have FIN:Aside _:=fin
 have HA:Aside _:=hap
 have HC:Aside _:=hcl
 have A0:Aside _:=a0
 have A1:Aside _:=a1
 simp only [maxLen] at hcm
 have hc1:¬ (c=1):=by omega
 have hcn:¬ (c=n-1):=by omega
 have hne:¬ ((0:Int)=1):=by omega
 have hb1:(1:Int)≤(n:Int):=by omega
 have hb2:((n-1:Nat):Int)≤(n:Int):=by omega
 have hb3:(n:Int)≤(c:Int):=by omega
 have hb4:(1:Int)≤(c:Int):=by omega
 have hb5:(0:Int)≤((n-1:Nat):Int):=by omega
 have mixed:Tryz.prog.follows Departure.mixedOrders=true:=by kernel_rfl
 clear fin hap hcl a0 a1 hg hXY hX hY hD hDl h1d s2 s3 hR1l hR2l hR3l hR1 hR2 hR3 hsp h1c hl hlc hzs hzl h1z
 go_enter func132,Tryz.ntmps132
 go_wp2
 go_region_law_o (refine zHR rfl _ _ 198 198 rfl (.slice (some ⟨b,0,none⟩) 0 c) (.slice (some ⟨b,4,none⟩) (n-1) (c-1)) (by simp [Act.eval,Act.put]) (by simp [Act.eval,Act.put]) (HA.out _ (by exact A0.out) _ (c-1)) ?_)
 go_wp2_with (refine zHT _ rfl _ 198 rfl _ rfl (HC.out _ (by exact A1.out) _ _) ?_)
 go_ret
 exact ⟨_,_,rfl,rfl,FIN.out⟩
end Go.Proofs.YtljpfgacpofkpaaGreat
