import Derived.Test.YtajjkegcfmhghaaGreatQG9
import Derived.Test.YtajjkegcfmhghaaGreatQG23
import Derived.Test.YtajjkegcfmhghaaGreatQG24
import Derived.Test.YtajjkegcfmhghaaGreatQG8
import Derived.Test.YtajjkegcfmhghaaGreatQSxBasB
set_option linter.unusedVariables false
set_option linter.unusedSimpArgs false
namespace Go.Proofs.YtajjkegcfmhghaaGreat
open Tryz
open Go Go.Sx Go.RowKit
set_option maxRecDepth 4000
set_option maxHeartbeats 1000000
theorem zGo (c:zAG) (u:Value) (L:List EvR) (at_:Int) (hat:R64 at_) (w0:World) (hu:Rd w0 [] u 3 L.length (L.flatMap evV)) (hL:∀ x∈L,x.ok w0) (hno:Grt L∨zCm c≠0):Calls Tryz.prog 5 #[.agg #[zI c.ring,zI c.window,zI c.base,zI c.gain,zI c.least,zI c.most,zI c.slack,zI c.num,zI c.den,zI c.extra,.bool (c.curve)],u,zI at_] w0 (zAf w0 (.bool true)):=by
 have hue:=hu.le
 simp only [maxLen] at hue
 refine zG (F0:=[(0,.agg #[zI c.ring,zI c.window,zI c.base,zI c.gain,zI c.least,zI c.most,zI c.slack,zI c.num,zI c.den,zI c.extra,.bool (c.curve)]),(1,u),(2,zI at_)]) func5 rfl rfl rfl (.c (.c (.c .n))) (Mem.nil _) ?_
 refine go 2 [0] [3,1,2] .n (λg1=>?_)
 intro a w hs
 refine zAS [.p [] [0],.p [] [],.y [1,0] (.pointer (none)) [] [] [] λvs2=>[],.p [] [0],.p [] [],.y [4,3] (.pointer (none)) [] [] [] λvs2=>[],.p [2] [],.p [5] []] [6,7] hs .n .n (.c .z .n) (by kernel_rfl) ⟨rfl,rfl,⟨.n,by kernel_rfl,λ_=>rfl,rfl,rfl⟩,⟨?_,?_,trivial⟩,?_⟩
 ·
  intro a_ w_ R_ rest_ vs2 hm hs ht hx
  have hs0:=hs.bare
  refine zB (v:=.pointer (none)) hs (.c rfl (.c rfl .n)) call6 (zOM c _ L _ (hm.rd0 hu) (λx hx=>⟨(hL x hx).k,(hL x hx).at_,hm.rd0 (hL x hx).rd⟩) hno) rfl ?_;clear hs;intro a w hs
  exact wpList_nil ⟨rfl,_,_,hs0,(.c (.c .r)),hs,rfl⟩
 ·
  intro a_ w_ R_ rest_ vs2 hm hs ht hx
  have hs0:=hs.bare
  refine zB (v:=.pointer (none)) hs (.c rfl (.c rfl .n)) call6 (zOM c _ L _ (hm.rd0 hu) (λx hx=>⟨(hL x hx).k,(hL x hx).at_,hm.rd0 (hL x hx).rd⟩) hno) rfl ?_;clear hs;intro a w hs
  exact wpList_nil ⟨rfl,_,_,hs0,(.c (.c .r)),hs,rfl⟩
 clear hs w a;intro vs2 a w hs hf
 clear hf
 revert a w hs
 refine goE 0 [] [8,7,1,2] .n ?_
 intro a w hs;refine zB (v:=.bool (true)) hs .n call7 (zIf _) rfl ?_
 refine goL 10 [] [] .n ?_
 intro a w hs;refine zB (v:=.bool (true)) hs .n call7 (zIf _) rfl ?_
 refine goL 1 [] [6] .n ?_
 refine cl (·.drop (.c .z .n)) ?_
 intro a w hs;exact fin hs rfl rfl ⟨rfl,rfl⟩
theorem zJN (c:zAG) (u:Value) (L:List EvR) (at_:Int) (hat:R64 at_) (w0:World) (hu:Rd w0 [] u 3 L.length (L.flatMap evV)) (hL:∀ x∈L,x.ok w0) (hg:¬ Grt L) (hk:zCm c=0):Calls Tryz.prog 5 #[.agg #[zI c.ring,zI c.window,zI c.base,zI c.gain,zI c.least,zI c.most,zI c.slack,zI c.num,zI c.den,zI c.extra,.bool (c.curve)],u,zI at_] w0 (zAf w0 (.bool true)):=by
 have hue:=hu.le
 simp only [maxLen] at hue
 have hL60:L.length≤60:=by unfold Grt at hg;omega
 have hkr:=zLx hk
 refine zG (F0:=[(0,.agg #[zI c.ring,zI c.window,zI c.base,zI c.gain,zI c.least,zI c.most,zI c.slack,zI c.num,zI c.den,zI c.extra,.bool (c.curve)]),(1,u),(2,zI at_)]) func5 rfl rfl rfl (.c (.c (.c .n))) (Mem.nil _) ?_
 refine go 2 [0] [3,1,2] .n (λg1=>?_)
 intro a w hs
 refine zFF (Γ:=Nat×HA×Nat×HA) (M0:=[blk g1 [zI c.ring,zI c.window,zI c.base,zI c.gain,zI c.least,zI c.most,zI c.slack,zI c.num,zI c.den,zI c.extra,.bool (c.curve)] 23]) (Ds:=λgs=>[Pv 0 (.agg #[zI c.ring,zI c.window,zI c.base,zI c.gain,zI c.least,zI c.most,zI c.slack,zI c.num,zI c.den,zI c.extra,.bool (c.curve)]),Pv 1 u,⟨[],[],[],λvs2=>vs2 2=pt ((gs 2).1) 0∧Cli ((gs 2).1) c (C0 c) ((gs 2).2.1),λvs2=>[((gs 2).2.1)],none⟩,Pv 3 (.agg #[zI c.ring,zI c.window,zI c.base,zI c.gain,zI c.least,zI c.most,zI c.slack,zI c.num,zI c.den,zI c.extra,.bool (c.curve)]),Pv 4 u,⟨[],[],[],λvs2=>vs2 5=pt ((gs 5).2.2.1) 0∧Cli ((gs 5).2.2.1) c (C0 c) ((gs 5).2.2.2),λvs2=>[((gs 5).2.2.2)],none⟩,Pv 6 (pt ((gs 2).1) 0),Pv 7 (pt ((gs 5).2.2.1) 0)]) [[],[],[2],[],[],[5],[2],[5]] ((default:Nat),(zFa []),(default:Nat),(zFa [])) (by kernel_rfl) hs rfl .n (by kernel_rfl) (λ_=>by kernel_rfl) (λ_ _=>rfl) (λus_ us'_=>(.c (λ_=>rfl) (.c (λ_=>rfl) (.c (λh=>by have e2:=h 2 (by simp);simp only [e2]) (.c (λ_=>rfl) (.c (λ_=>rfl) (.c (λh=>by have e5:=h 5 (by simp);simp only [e5]) (.c (λh=>by have e2:=h 2 (by simp);simp only [e2]) (.c (λh=>by have e5:=h 5 (by simp);simp only [e5]) .n))))))))) (by kernel_rfl) rfl (by kernel_rfl) (λgs=>?_) ?_
 ·
  refine (.c ?_ (.c ?_ (.g ?_ (.c ?_ (.c ?_ (.g ?_ (.c ?_ (.c ?_ .n))))))))
  · exact zAN (m:=8) .n (λhm0 hm hx=>(.c (hm0.del .z))) (by kernel_rfl) (by kernel_rfl) rfl
  · exact zAN (m:=8) .n (λhm0 hm hx=>.n) (by kernel_rfl) (by kernel_rfl) rfl
  ·
   intro a_ w_ R_ rest_ vs2 hm hs ht hx
   have hm0:=hm.mid
   replace hs:=hs.lrn (ht 0 (zD 8 _ (by kernel_rfl))) rfl rfl
   replace hs:=hs.lrn (ht 1 (zD 8 _ (by kernel_rfl))) rfl rfl
   have hs0:=hs.bare
   refine zK hs (.c rfl (.c rfl .n)) call6 .n (zOZ c _ L _ (hm.rd0 hu) (λx hx=>⟨(hL x hx).k,(hL x hx).at_,hm.rd0 (hL x hx).rd⟩) hg hk) rfl ?_;clear hs;rintro _ _ a w ⟨g3,Y4,rfl,rfl,hY5⟩ hs
   exact wpList_nil ⟨rfl,(g3,Y4,((gs 2).2.2.1),((gs 2).2.2.2)),_,_,hs0,(.c (.c .r)),hs,⟨rfl,hY5⟩⟩
  · exact zAN (m:=8) .n (λhm0 hm hx=>(.c (hm0.del .z))) (by kernel_rfl) (by kernel_rfl) rfl
  · exact zAN (m:=8) .n (λhm0 hm hx=>.n) (by kernel_rfl) (by kernel_rfl) rfl
  ·
   intro a_ w_ R_ rest_ vs2 hm hs ht hx
   have hm0:=hm.mid
   replace hs:=hs.lrn (ht 3 (zD 8 _ (by kernel_rfl))) rfl rfl
   replace hs:=hs.lrn (ht 4 (zD 8 _ (by kernel_rfl))) rfl rfl
   have hs0:=hs.bare
   refine zK hs (.c rfl (.c rfl .n)) call6 .n (zOZ c _ L _ (hm.rd0 hu) (λx hx=>⟨(hL x hx).k,(hL x hx).at_,hm.rd0 (hL x hx).rd⟩) hg hk) rfl ?_;clear hs;rintro _ _ a w ⟨g6,Y7,rfl,rfl,hY8⟩ hs
   exact wpList_nil ⟨rfl,(((gs 5).1),((gs 5).2.1),g6,Y7),_,_,hs0,(.c (.c .r)),hs,⟨rfl,hY8⟩⟩
  ·
   intro a_ w_ R_ rest_ vs2 hm hs ht hx
   have hm0:=hm.mid
   have t2:=ht 2 (zD 8 _ (by kernel_rfl))
   have e2:_=some (vs2 2):=t2.val rfl
   rw [show vs2 2=pt ((gs 2).1) 0 from t2.2.1.1] at e2
   have hY5:Cli ((gs 2).1) c (C0 c) ((gs 2).2.1):=t2.2.1.2
   replace hs:=hs.learn e2
   have hs0:=hs.bare
   refine zEH hs rfl rfl ?_;clear hs;intro a w hs
   exact wpList_nil ⟨rfl,_,_,hs0,(.c .r),hs,rfl⟩
  intro a_ w_ R_ rest_ vs2 hm hs ht hx
  have hm0:=hm.mid
  have t5:=ht 5 (zD 8 _ (by kernel_rfl))
  have e5:_=some (vs2 5):=t5.val rfl
  rw [show vs2 5=pt ((gs 5).2.2.1) 0 from t5.2.1.1] at e5
  have hY8:Cli ((gs 5).2.2.1) c (C0 c) ((gs 5).2.2.2):=t5.2.1.2
  replace hs:=hs.learn e5
  have hs0:=hs.bare
  refine zEH hs rfl rfl ?_;clear hs;intro a w hs
  exact wpList_nil ⟨rfl,_,_,hs0,(.c .r),hs,rfl⟩
 clear hs w a;intro a w vs2 gs hs hf
 replace hs:St _ _ _ _ [blk g1 [zI c.ring,zI c.window,zI c.base,zI c.gain,zI c.least,zI c.most,zI c.slack,zI c.num,zI c.den,zI c.extra,.bool (c.curve)] 23,((gs 2).2.1),((gs 5).2.2.2)] _ _:=hs
 obtain ⟨e2,q2⟩:=hf 2 (by decide)
 replace e2:_=some (vs2 2):=e2.val rfl
 obtain ⟨q2,hY5⟩:=q2
 rw [show vs2 2=pt ((gs 2).1) 0 from q2] at e2
 replace hs:=hs.learn e2;clear e2 q2
 obtain ⟨e5,q5⟩:=hf 5 (by decide)
 replace e5:_=some (vs2 5):=e5.val rfl
 obtain ⟨q5,hY8⟩:=q5
 rw [show vs2 5=pt ((gs 5).2.2.1) 0 from q5] at e5
 replace hs:=hs.learn e5;clear e5 q5
 obtain ⟨e6,q6⟩:=hf 6 (by decide)
 replace e6:_=some (vs2 6):=e6.val rfl
 rw [show vs2 6=pt ((gs 2).1) 0 from q6] at e6
 replace hs:=hs.learn e6;clear e6 q6
 obtain ⟨e7,q7⟩:=hf 7 (by decide)
 replace e7:_=some (vs2 7):=e7.val rfl
 rw [show vs2 7=pt ((gs 5).2.2.1) 0 from q7] at e7
 replace hs:=hs.learn e7;clear e7 q7
 generalize ((gs 2).1)=z9 at hs hY5
 generalize ((gs 2).2.1)=X10 at hs hY5
 generalize ((gs 5).2.2.1)=z11 at hs hY8
 generalize ((gs 5).2.2.2)=X12 at hs hY8
 clear hf
 revert a w hs
 refine goE 0 [] [8,7,1,2] .n ?_
 intro a w hs;refine zB (v:=.bool (true)) hs .n call7 (zIf _) rfl ?_
 refine goL 11 [] [41,8,7,2] .n ?_
 intro a w hs;refine zAC hs rfl (hs.rd0 hu).isSl underlying24 rfl ?_
 refine goL 1 [] [43,42,41,8,7,2] .n ?_
 refine cl (·.reorder (.c (.s .z) (.c (.s .z) (.c .z .n)))) ?_
 intro a w hs;refine zCU (λmm_ a w=>∃ j:Nat,∃ Y:HA,∃ C:CS,∃ Y2:HA,∃ D:CS,mm_=L.length-j∧St 179 [(2,zI at_),(7,pt z9 0),(8,pt z11 0),(41,u),(42,nI L.length),(43,nI j)] w0 [] [Y,Y2,blk g1 [zI c.ring,zI c.window,zI c.base,zI c.gain,zI c.least,zI c.most,zI c.slack,zI c.num,zI c.den,zI c.extra,.bool (c.curve)] 23] a w∧j≤L.length∧Cli z9 c C Y∧Cli z11 c D Y2∧C.ok c∧D.ok c∧(∀ i,C.σ.n i≤j)∧(∀ i,D.σ.n i≤4*j)∧C.fr≤j∧zHu C D) ⟨0,X10,(C0 c),X12,(C0 c),rfl,hs.sub (.c rfl (.c rfl (.c rfl (.c rfl (.c rfl (.c rfl .n)))))),by omega,hY5,hY8,(zY4 hk),(zY4 hk),(λi=>Nat.le_refl 0),(λi=>Nat.le_refl 0),(Nat.le_refl 0),(zHu.refl _)⟩ ?_
 clear hs w a;rintro mm_ a w ⟨j,Y,C,Y2,D,rfl,hs,hI1_0,hI1_1,hI1_2,hI1_3,hI1_4,hI1_5,hI1_6,hI1_7,hI1_8⟩
 revert a w hs
 refine go 1 [] [44,2,7,8,41,42,43] .n ?_
 refine ifG rfl (λc_13=>?_) (λc_13=>?_)
 ·
  refine go 0 [] [2,7,8,41,42,43] .n ?_
  intro a w hs;refine zBm (j:=j) hs rfl rfl (hs.rd0 hu) rfl (by omega) underlying24 sizeOf30 rfl ?_
  intro a w hs;refine zA9 (cs:=evV (L.getD j default)) hs rfl (hs.rd0 hu) (zAh zHR L j (by omega)) (by rw [zAX zHR];omega) (by omega) isAgg30 sizeOf30 rfl ?_
  have hxo:=hL _ (zGR (l:=L) (i:=j) (by omega));have hxk:=hxo.k;have hxa:=hxo.at_
  refine goL 4 [50,0] [49,48,10,2,7,8,41,42,43] .n (λg14=>⟨rfl,(zJ rfl (zJ rfl (zJ (hL _ (zGR (by omega))).rd.isSl.one zAe))),rfl,?_⟩)
  intro a w hs;refine zK hs (.c rfl (.c rfl .n)) call8 (.c (.s .z) .n) (zXK hI1_1 hk hI1_3 (λi=>Nat.le_trans (hI1_5 i) (by omega)) (Nat.le_trans hI1_7 (by omega)) (L.getD j default) ⟨by omega,by omega⟩ _ (hs.mem.del (.s .z)) (hs.mem.rd1 (hL _ (zGR (by omega))).rd (.c (.s .z) .n)) ⟨by omega,by omega⟩) rfl ?_;clear hs w a;rintro _ _ a w ⟨v17,rfl,Y15,rfl,hY16⟩ hs
  revert a w hs
  refine goL 4 [] [11,52,51,10,2,7,8,41,42,43] .n (λg18=>?_)
  intro a w hs;refine zAb hs rfl rfl .z (.z (.c (.c (.c .n)))) (zJ rfl (zJ rfl (zJ (zP (hs.mem.del (.s .z))).isSl.one zAe))) sizeOf33 rfl ?_
  refine goL 3 [0] [55,54,12,11,10,2,7,8,41,42,43] (.c (.s (.s (.s .z))) .n) ⟨rfl,?_⟩
  intro a w hs;refine zK hs (.c rfl (.c rfl .n)) call8 (.c (.s (.s (.s (.s .z)))) .n) (zXK hI1_2 hk hI1_4 (λi=>Nat.le_trans (hI1_6 i) (by omega)) (Nat.le_trans (Nat.le_trans (Nat.le_of_eq hI1_8.fr) hI1_7) (by omega)) (L.getD j default) ⟨by omega,by omega⟩ _ (hs.mem.del (.s (.s (.s (.s .z))))) (hs.mem.rd1 (hL _ (zGR (by omega))).rd (.c (.s (.s (.s (.s .z)))) .n)) ⟨by omega,by omega⟩) rfl ?_;clear hs w a;rintro _ _ a w ⟨v21,rfl,Y19,rfl,hY20⟩ hs
  have hrf22:=(hI1_8).do_ c (L.getD j default)
  have hokd:=Cli.oks hI1_2
  rw [(hI1_8).doS c (L.getD j default),(hI1_8).doE c (L.getD j default)] at hs
  revert a w hs
  refine goL 4 [] [13,58,57,12,11,10,2,7,8,41,42,43] .n (λg23=>?_)
  intro a w hs;refine zAb hs rfl rfl .z (.z (.c (.c (.c .n)))) (zJ rfl (zJ rfl (zJ (zP (hs.mem.del (.s .z))).isSl.one zAe))) sizeOf33 rfl ?_
  refine goL 4 [] [61,13,12,11,10,2,7,8,41,42,43] .n ?_
  have hb_:(!((((zLw c C (L.getD j default):Nat):Int):Int)==((zLw c C (L.getD j default):Nat):Int)))=false:=zc0 rfl
  intro a w hs;rw [hb_] at hs;clear hb_
  revert a w hs
  refine go 3 [0,1] [64,63,62,12,10,2,7,8,41,42,43] (.c (.s (.s (.s (.s .z)))) (.c .z .n)) ⟨rfl,rfl,?_⟩
  intro a w hs;refine zF hs rfl rfl rfl ?_
  refine zB (v:=.bool true) hs (.c rfl (.c rfl .n)) call19 (zRr (zGY c C (L.getD j default)) _ _ _ (zP (hs.mem.del (.s (.s (.s (.s (.s .z))))))) (zP (hs.mem.del (.s (.s .z))))) rfl ?_
  refine goL 7 [0] [71,12,10,2,7,8,41,42,43] (.c (.s (.s (.s (.s .z)))) .n) ⟨rfl,?_⟩
  intro a w hs;refine zY (b:=!(((L.getD j default).k:Int)==0)) (λc_24=>?_) (λc_24=>?_)
  ·
   rw [c_24] at hs
   replace c_24:=zFy c_24
   replace c_24:=zAR c_24
   revert a w hs
   refine go 12 [] [43,2,7,8,41,42] .n ⟨(by omega),?_⟩
   refine cl (·.drop (.c (.s (.s (.s (.s (.s .z))))) (.c (.s (.s (.s .z))) (.c (.s (.s .z)) (.c (.s .z) (.c .z .n)))))) ?_
   refine cl (·.reorder (.c (.s .z) (.c .z (.c .z .n)))) ?_
   intro a w hs;refine ⟨_,?_,(j+1),Y15,(cDo c C (L.getD j default)),Y19,(cDo c D (L.getD j default)),rfl,hs.sub (.c rfl (.c rfl (.c rfl (.c rfl (.c rfl (.c rfl .n)))))),by omega,hY16,hY20,(zFJ hk ⟨by omega,by omega⟩ hI1_3),(zFJ hk ⟨by omega,by omega⟩ hI1_4),(λi=>(Nat.le_trans (zI7 _ _ _ i) (Nat.succ_le_succ (hI1_5 i)))),(λi=>Nat.le_trans (Nat.le_trans (zI7 _ _ _ i) (Nat.succ_le_succ (hI1_6 i))) (by omega)),(Nat.le_trans (zEd _ _ _) (Nat.succ_le_succ hI1_7)),hrf22⟩
   omega
  rw [c_24] at hs
  replace c_24:=zFv c_24
  replace c_24:=eq_of_beq c_24
  revert a w hs
  refine go 4 [] [75,10,2,7,8,41,42,43] .n ?_
  intro a w hs;refine zY (b:=!((((zLw c C (L.getD j default):Nat):Int):Int)==0)) (λc_25=>?_) (λc_25=>?_)
  ·
   rw [c_25] at hs
   replace c_25:=zFy c_25
   replace c_25:=zAR c_25
   revert a w hs
   refine go 8 [] [43,2,7,8,41,42] .n ⟨(by omega),?_⟩
   refine cl (·.drop (.c (.s (.s (.s (.s (.s .z))))) (.c (.s (.s (.s .z))) (.c (.s (.s .z)) (.c (.s .z) (.c .z .n)))))) ?_
   refine cl (·.reorder (.c (.s .z) (.c .z (.c .z .n)))) ?_
   intro a w hs;refine ⟨_,?_,(j+1),Y15,(cDo c C (L.getD j default)),Y19,(cDo c D (L.getD j default)),rfl,hs.sub (.c rfl (.c rfl (.c rfl (.c rfl (.c rfl (.c rfl .n)))))),by omega,hY16,hY20,(zFJ hk ⟨by omega,by omega⟩ hI1_3),(zFJ hk ⟨by omega,by omega⟩ hI1_4),(λi=>(Nat.le_trans (zI7 _ _ _ i) (Nat.succ_le_succ (hI1_5 i)))),(λi=>Nat.le_trans (Nat.le_trans (zI7 _ _ _ i) (Nat.succ_le_succ (hI1_6 i))) (by omega)),(Nat.le_trans (zEd _ _ _) (Nat.succ_le_succ hI1_7)),hrf22⟩
   omega
  rw [c_25] at hs
  replace c_25:=zFv c_25
  replace c_25:=eq_of_beq c_25
  revert a w hs
  refine go 2 [0] [77,75,10,2,7,8,41,42,43] (.c .z .n) ⟨rfl,?_⟩
  intro a w hs;refine zF hs rfl rfl rfl ?_
  refine zAC hs rfl (hs.rd0 (hL _ (zGR (by omega))).rd).isSl underlying28 rfl ?_
  refine goL 2 [] [80,10,2,7,8,41,42,43] .n ?_
  refine ifG rfl (λc_26=>?_) (λc_26=>?_)
  ·
   refine go 2 [] [43,2,7,8,41,42] .n ⟨(by omega),?_⟩
   refine cl (·.drop (.c (.s (.s (.s (.s (.s .z))))) (.c (.s (.s (.s .z))) (.c (.s (.s .z)) (.c (.s .z) (.c .z .n)))))) ?_
   refine cl (·.reorder (.c (.s .z) (.c .z (.c .z .n)))) ?_
   intro a w hs;refine ⟨_,?_,(j+1),Y15,(cDo c C (L.getD j default)),Y19,(cDo c D (L.getD j default)),rfl,hs.sub (.c rfl (.c rfl (.c rfl (.c rfl (.c rfl (.c rfl .n)))))),by omega,hY16,hY20,(zFJ hk ⟨by omega,by omega⟩ hI1_3),(zFJ hk ⟨by omega,by omega⟩ hI1_4),(λi=>(Nat.le_trans (zI7 _ _ _ i) (Nat.succ_le_succ (hI1_5 i)))),(λi=>Nat.le_trans (Nat.le_trans (zI7 _ _ _ i) (Nat.succ_le_succ (hI1_6 i))) (by omega)),(Nat.le_trans (zEd _ _ _) (Nat.succ_le_succ hI1_7)),hrf22⟩
   omega
  have hgd:=zdd (c:=c) (C:=C) (e:=(L.getD j default)) (by assumption) (by assumption)
  have hgl:=zbz hgd
  refine go 1 [] [81,10,2,7,8,41,42,43] .n ?_
  intro a w hs;refine zAY hs rfl underlying3 underlying68 rfl ?_
  refine goL 2 [0] [84,82,10,2,7,8,41,42,43] (.c .z .n) ⟨rfl,?_⟩
  intro a w hs;refine zAC hs rfl (hs.rd0 (hL _ (zGR (by omega))).rd).isSl underlying28 rfl ?_
  refine goL 1 [] [86,82,10,2,7,8,41,42,43] .n ⟨(by omega),?_⟩
  have hv_:(8*(((L.getD j default).bs.length:Nat):Int):Int)=(((8*(L.getD j default).bs.length:Nat):Int):Int):=by omega
  intro a w hs;rw [hv_] at hs;clear hv_
  refine zAY hs rfl underlying3 underlying68 rfl ?_
  intro a w hs;refine zJv (X:=BitVec.ofInt 64 at_) (Y:=BitVec.ofInt 64 ((8*(L.getD j default).bs.length:Nat):Int)) hs rfl rfl rfl rfl (zWI _ (by omega) (by omega)) rfl ?_
  intro a w hs;refine zAL (X:=(BitVec.ofInt 64 at_)%(BitVec.ofInt 64 ((8*(L.getD j default).bs.length:Nat):Int))) hs rfl rfl underlying68 underlying3 rfl ?_
  obtain ⟨kk,hkb,hkk⟩:=zaf (BitVec.ofInt 64 at_) (8*(L.getD j default).bs.length) (by omega) (by omega)
  intro a w hs;rw [hkk] at hs;clear hkk
  revert a w hs
  refine goL 1 [] [15,10,2,7,8,41,42,43] .n ?_
  intro a w hs;refine zPP hs underlying28 rfl ?_ ⟨_,sizeOf5⟩;intro g27
  refine goL 2 [0] [92,90,15,10,2,7,8,41,42,43] (.c (.s .z) .n) ⟨rfl,?_⟩
  refine cl (·.toRow (size:=1) (m:=0) (.s .z) rfl (by decide)) ?_
  intro a w hs;refine zBI (size:=1) (bytes:=1) hs rfl rfl .z (hs.rd0 (hL _ (zGR (by omega))).rd) (zAI _) underlying28 (i:=Tryz.t5) rfl rfl rfl rfl rfl (by decide) (by omega) (by simp only [maxLen];omega) rfl ?_;intro v28
  refine cl (·.rerow .z (m':=(L.getD j default).bs.length) (xs':=zC (L.getD j default).bs) (by omega) (by rw [List.nil_append])) ?_
  refine goL 1 [] [16,15,10,2,7,8,41,42,43] .n ?_
  intro a w hs
  refine zAS [.p [] [],.p [] [],.v [1] (nI (kk/8)),.y [2,0] (.pointer (some (adr v28 (kk/8)))) [] [] [] λvs29=>[],.y [3] (bI (((L.getD j default).bs).getD (kk/8) 0)) [] [] [] λvs29=>[],.p [] [],.v [5] (nI (kk%8)),.v [6] (bI ((1#8)<<<(kk%8))),.v [7,4] (bI ((((L.getD j default).bs).getD (kk/8) 0)^^^((1#8)<<<(kk%8)))),.y [2,0] (.pointer (some (adr v28 (kk/8)))) [] [] [] λvs29=>[],.x [9,8] ⟨[row v28 5 1 ((L.getD j default).bs.length) (zC (L.getD j default).bs)],[],[],λvs29=>True,λvs29=>[row v28 5 1 ((L.getD j default).bs.length) (zC (((L.getD j default).bs).set (kk/8) ((((L.getD j default).bs).getD (kk/8) 0)^^^((1#8)<<<(kk%8)))))],none⟩] [] hs .n (.c .z .n) .n (by kernel_rfl) ⟨?_,?_,λ_ _ _ _ hm hs K=>zMY (X:=1#8) (m:=(kk%8)) hs rfl (by decide) rfl rfl rfl (vk K),λ_ _ _ _ hm hs K=>zTS (X:=((L.getD j default).bs).getD (kk/8) 0) (Y:=(1#8)<<<(kk%8)) hs rfl rfl rfl rfl rfl (vk K),⟨(.c .z .n),by kernel_rfl,λ_=>rfl,rfl,rfl⟩,⟨?_,?_,?_,?_,trivial⟩,?_⟩
  ·
   intro a_ w_ R_ Q_ hm hs K_
   refine zTZ hs rfl rfl (by omega) rfl ?_;clear hs;intro a w hs
   have hv_:((kk:Int)/8:Int)=(((kk/8:Nat):Int):Int):=by omega
   rw [hv_] at hs;clear hv_
   exact wpList_nil (K_ _ _ hs)
  ·
   intro a_ w_ R_ Q_ hm hs K_
   refine zZ2 hs rfl rfl (by omega) rfl ?_;clear hs;intro a w hs
   have hv_:((kk:Int)%8:Int)=(((kk%8:Nat):Int):Int):=by omega
   rw [hv_] at hs;clear hv_
   exact wpList_nil (K_ _ _ hs)
  ·
   intro a_ w_ R_ rest_ vs29 hm hs ht hx
   have hs0:=hs.bare
   refine zA4 (j:=(kk/8)) hs rfl rfl (zP (hm.own (List.mem_append.2 (.inr ((hx 10 (zD 11 _ (by kernel_rfl))).1 _ (List.Mem.head _)))))) rfl (by omega) underlying28 sizeOf5 rfl ?_;clear hs;intro a w hs
   exact wpList_nil ⟨rfl,_,_,hs0,(.c (.c .r)),hs,rfl⟩
  ·
   intro a_ w_ R_ rest_ vs29 hm hs ht hx
   have hs0:=hs.bare
   refine zB4 hs rfl (zP (hm.own (List.mem_append.2 (.inr ((hx 10 (zD 11 _ (by kernel_rfl))).1 _ (List.Mem.head _)))))) (zB1 ((L.getD j default).bs) (by first | omega | (simp;omega))) isAgg5 rfl ?_;clear hs;intro a w hs
   exact wpList_nil ⟨rfl,_,_,hs0,(.c .r),hs,rfl⟩
  ·
   intro a_ w_ R_ rest_ vs29 hm hs ht hx
   have hs0:=hs.bare
   refine zA4 (j:=(kk/8)) hs rfl rfl (zP (hm.own (List.mem_append.2 (.inr ((hx 10 (zD 11 _ (by kernel_rfl))).1 _ (List.Mem.head _)))))) rfl (by omega) underlying28 sizeOf5 rfl ?_;clear hs;intro a w hs
   exact wpList_nil ⟨rfl,_,_,hs0,(.c (.c .r)),hs,rfl⟩
  ·
   intro a_ w_ R_ rest_ vs29 hm hs ht hx
   have hs0:=hs.bare
   refine zLs hs rfl rfl .z (by omega) rfl sizeOf5 ?_;clear hs;intro a w hs
   replace hs:=hs.rerow .z (m':=(L.getD j default).bs.length) (xs':=zC (((L.getD j default).bs).set (kk/8) ((((L.getD j default).bs).getD (kk/8) 0)^^^((1#8)<<<(kk%8))))) (rfl) ((zEM _ _ _).symm)
   exact wpList_nil ⟨rfl,.tuple #[],_,hs0,(.c (.c .r)),hs,trivial⟩
  clear hs w a;intro vs29 a w hs hf
  clear hf
  revert a w hs
  refine goE 1 [] [105,16,10,2,7,8,41,42,43] .n ?_
  intro a w hs;refine zB (v:=.tuple #[zI ((cDo c D (L.getD j default)).K.off),zI ((cDo c D (L.getD j default)).K.j),zI ((cDo c D (L.getD j default)).K.now)]) hs (.c rfl .n) call20 (zLt hY20  _ (hs.mem.del (.s (.s (.s (.s .z)))))) rfl ?_
  refine goL 8 [] [110,19,18,17,16,10,2,7,8,41,42,43] .n ?_
  intro a w hs;refine zB (v:=nI ((cDo c D (L.getD j default)).σ.n 0)) hs (.c rfl .n) call17 (zM2 hY20  _ (hs.mem.del (.s (.s (.s (.s .z)))))) rfl ?_
  have h12:zA7 c (cDo c D (L.getD j default)) (zA (L.getD j default).bs)=12:=zba hI1_8 hokd (by assumption) (by assumption)
  have hr2:zHu _ (zBG c (cDo c D (L.getD j default)) (IntKind.i64.wrap ((L.getD j default).at_+7)) (zA (L.getD j default).bs)):=(hrf22).no (by rw [h12];decide)
  have h9:zA7 c (zBG c (cDo c D (L.getD j default)) (IntKind.i64.wrap ((L.getD j default).at_+7)) (zA (L.getD j default).bs)) (zA ((L.getD j default).bs.set (kk/8) (((L.getD j default).bs.getD (kk/8) 0)^^^((1#8)<<<(kk%8)))))=9:=zdi (zT5 hgd (kk/8) _ (by omega) (zcn _ (by omega)))
  have hr3:zHu _ (zBG c (zBG c (cDo c D (L.getD j default)) (IntKind.i64.wrap ((L.getD j default).at_+7)) (zA (L.getD j default).bs)) (IntKind.i64.wrap ((L.getD j default).at_+7)) (zA ((L.getD j default).bs.set (kk/8) (((L.getD j default).bs.getD (kk/8) 0)^^^((1#8)<<<(kk%8)))))):=hr2.no (by rw [h9];decide)
  have hcut:zA7 c (zBG c (zBG c (cDo c D (L.getD j default)) (IntKind.i64.wrap ((L.getD j default).at_+7)) (zA (L.getD j default).bs)) (IntKind.i64.wrap ((L.getD j default).at_+7)) (zA ((L.getD j default).bs.set (kk/8) (((L.getD j default).bs.getD (kk/8) 0)^^^((1#8)<<<(kk%8)))))) (zA ((L.getD j default).bs.take ((L.getD j default).bs.length-1)))≠0:=zcq (zVR hgd)
  have hr4:zHu _ (zBG c (zBG c (zBG c (cDo c D (L.getD j default)) (IntKind.i64.wrap ((L.getD j default).at_+7)) (zA (L.getD j default).bs)) (IntKind.i64.wrap ((L.getD j default).at_+7)) (zA ((L.getD j default).bs.set (kk/8) (((L.getD j default).bs.getD (kk/8) 0)^^^((1#8)<<<(kk%8)))))) (IntKind.i64.wrap ((L.getD j default).at_+7)) (zA ((L.getD j default).bs.take ((L.getD j default).bs.length-1)))):=hr3.no hcut
  refine goL 1 [] [20,19,18,17,16,10,2,7,8,41,42,43] .n ?_
  intro a w hs
  refine zFF (Γ:=HA×HA×HA) (M0:=[blk g14 [zI ((L.getD j default).k),zI ((L.getD j default).at_),(L.getD j default).v] 30,blk g18 [.bool ((zGY c C (L.getD j default)).ready),zI ((zGY c C (L.getD j default)).time),v17] 33,blk g23 [.bool ((zGY c C (L.getD j default)).ready),zI ((zGY c C (L.getD j default)).time),v21] 33,row v21 43 6 ((zGY c C (L.getD j default)).l.length) ((zGY c C (L.getD j default)).l.flatMap zA5),row v17 43 6 ((zGY c C (L.getD j default)).l.length) ((zGY c C (L.getD j default)).l.flatMap zA5),Y15,blk g1 [zI c.ring,zI c.window,zI c.base,zI c.gain,zI c.least,zI c.most,zI c.slack,zI c.num,zI c.den,zI c.extra,.bool (c.curve)] 23,row v28 5 1 ((L.getD j default).bs.length) (zC (((L.getD j default).bs).set (kk/8) ((((L.getD j default).bs).getD (kk/8) 0)^^^((1#8)<<<(kk%8)))))]) (Ds:=λgs=>[Pv 0 (pt z11 0),Pv 1 (pt g14 1),Pv 2 (zI ((L.getD j default).at_)),Pv 3 (zI (IntKind.i64.wrap (((L.getD j default).at_)+7))),Pv 4 (pt g14 2),Pv 5 ((L.getD j default).v),⟨[Y19],[],[],λvs30=>vs30 6=nI (zA7 c (cDo c D (L.getD j default)) (zA ((L.getD j default).bs)))∧Cli z11 c (zBG c (cDo c D (L.getD j default)) (IntKind.i64.wrap (((L.getD j default).at_)+7)) (zA ((L.getD j default).bs))) ((gs 6).1),λvs30=>[((gs 6).1)],none⟩,Pv 7 (.bool (false)),Pv 8 (.bool (false)),Pv 9 (pt z11 0),Pv 10 (pt g14 1),Pv 11 (zI ((L.getD j default).at_)),Pv 12 (zI (IntKind.i64.wrap (((L.getD j default).at_)+7))),Pv 13 v28,⟨[],[6],[],λvs30=>vs30 14=nI (zA7 c (zBG c (cDo c D (L.getD j default)) (IntKind.i64.wrap (((L.getD j default).at_)+7)) (zA ((L.getD j default).bs))) (zA (((L.getD j default).bs).set (kk/8) ((((L.getD j default).bs).getD (kk/8) 0)^^^((1#8)<<<(kk%8))))))∧Cli z11 c (zBG c (zBG c (cDo c D (L.getD j default)) (IntKind.i64.wrap (((L.getD j default).at_)+7)) (zA ((L.getD j default).bs))) (IntKind.i64.wrap (((L.getD j default).at_)+7)) (zA (((L.getD j default).bs).set (kk/8) ((((L.getD j default).bs).getD (kk/8) 0)^^^((1#8)<<<(kk%8)))))) ((gs 14).2.1),λvs30=>[((gs 14).2.1)],none⟩,Pv 15 (.bool (false)),Pv 16 (.bool (false)),Pv 17 (.bool (false)),Pv 18 (pt z11 0),Pv 19 (pt g14 1),Pv 20 (zI ((L.getD j default).at_)),Pv 21 (zI (IntKind.i64.wrap (((L.getD j default).at_)+7))),Pv 22 (pt g14 2),Pv 23 ((L.getD j default).v),Pv 24 (pt g14 2),Pv 25 ((L.getD j default).v),Pv 26 (nI ((L.getD j default).bs.length)),Pv 27 (nI ((L.getD j default).bs.length-1)),Pv 28 (zF2 ((L.getD j default).v) 1 0 ((L.getD j default).bs.length-1)),⟨[],[14],[],λvs30=>vs30 29=nI (zA7 c (zBG c (zBG c (cDo c D (L.getD j default)) (IntKind.i64.wrap (((L.getD j default).at_)+7)) (zA ((L.getD j default).bs))) (IntKind.i64.wrap (((L.getD j default).at_)+7)) (zA (((L.getD j default).bs).set (kk/8) ((((L.getD j default).bs).getD (kk/8) 0)^^^((1#8)<<<(kk%8)))))) (zA (((L.getD j default).bs).take ((L.getD j default).bs.length-1))))∧Cli z11 c (zBG c (zBG c (zBG c (cDo c D (L.getD j default)) (IntKind.i64.wrap (((L.getD j default).at_)+7)) (zA ((L.getD j default).bs))) (IntKind.i64.wrap (((L.getD j default).at_)+7)) (zA (((L.getD j default).bs).set (kk/8) ((((L.getD j default).bs).getD (kk/8) 0)^^^((1#8)<<<(kk%8)))))) (IntKind.i64.wrap (((L.getD j default).at_)+7)) (zA (((L.getD j default).bs).take ((L.getD j default).bs.length-1)))) ((gs 29).2.2),λvs30=>[((gs 29).2.2)],none⟩,Pv 30 (.bool (false)),Pv 31 (.bool (false))]) [[],[],[],[],[],[],[6],[],[],[],[],[],[],[],[14],[],[],[],[],[],[],[],[],[],[],[],[],[],[],[29],[],[]] ((zFa []),(zFa []),(zFa [])) (by kernel_rfl) hs rfl (.c (.s (.s (.s (.s .z)))) .n) (by kernel_rfl) (λ_=>by kernel_rfl) (λ_ _=>rfl) (λus_ us'_=>(.c (λ_=>rfl) (.c (λ_=>rfl) (.c (λ_=>rfl) (.c (λ_=>rfl) (.c (λ_=>rfl) (.c (λ_=>rfl) (.c (λh=>by have e6:=h 6 (by simp);simp only [e6]) (.c (λ_=>rfl) (.c (λ_=>rfl) (.c (λ_=>rfl) (.c (λ_=>rfl) (.c (λ_=>rfl) (.c (λ_=>rfl) (.c (λ_=>rfl) (.c (λh=>by have e14:=h 14 (by simp);simp only [e14]) (.c (λ_=>rfl) (.c (λ_=>rfl) (.c (λ_=>rfl) (.c (λ_=>rfl) (.c (λ_=>rfl) (.c (λ_=>rfl) (.c (λ_=>rfl) (.c (λ_=>rfl) (.c (λ_=>rfl) (.c (λ_=>rfl) (.c (λ_=>rfl) (.c (λ_=>rfl) (.c (λ_=>rfl) (.c (λ_=>rfl) (.c (λh=>by have e29:=h 29 (by simp);simp only [e29]) (.c (λ_=>rfl) (.c (λ_=>rfl) .n))))))))))))))))))))))))))))))))) (by kernel_rfl) rfl (by kernel_rfl) (λgs=>?_) ?_
  ·
   refine (.c ?_ (.c ?_ (.c ?_ (.c ?_ (.c ?_ (.c ?_ (.g ?_ (.c ?_ (.c ?_ (.c ?_ (.c ?_ (.c ?_ (.c ?_ (.c ?_ (.g ?_ (.c ?_ (.c ?_ (.c ?_ (.c ?_ (.c ?_ (.c ?_ (.c ?_ (.c ?_ (.c ?_ (.c ?_ (.c ?_ (.c ?_ (.c ?_ (.c ?_ (.g ?_ (.c ?_ (.c ?_ .n))))))))))))))))))))))))))))))))
   · exact zAN (m:=32) .n (λhm0 hm hx=>.n) (by kernel_rfl) (by kernel_rfl) rfl
   · exact zAN (m:=32) .n (λhm0 hm hx=>.n) (by kernel_rfl) (by kernel_rfl) rfl
   · exact zAN (m:=32) (.c (k:=1) (by kernel_rfl) rfl rfl .n) (λhm0 hm hx=>(.c (hm0.del .z))) (by kernel_rfl) (by kernel_rfl) rfl
   ·
    intro a_ w_ R_ rest_ vs30 hm hs ht hx
    have hm0:=hm.mid
    replace hs:=hs.lrn (ht 2 (zD 32 _ (by kernel_rfl))) rfl rfl
    have hs0:=hs.bare
    refine zDe hs rfl rfl rfl ?_;clear hs;intro a w hs
    exact wpList_nil ⟨rfl,_,_,hs0,(.c .r),hs,rfl⟩
   · exact zAN (m:=32) .n (λhm0 hm hx=>.n) (by kernel_rfl) (by kernel_rfl) rfl
   · exact zAN (m:=32) (.c (k:=4) (by kernel_rfl) rfl rfl .n) (λhm0 hm hx=>(.c (hm0.del .z))) (by kernel_rfl) (by kernel_rfl) rfl
   ·
    intro a_ w_ R_ rest_ vs30 hm hs ht hx
    replace hs:St _ _ _ (zO [Y19]) [Y19] _ _:=hs
    have hm0:=hm.mid
    replace hs:=hs.lrn (ht 0 (zD 32 _ (by kernel_rfl))) rfl rfl
    replace hs:=hs.lrn (ht 3 (zD 32 _ (by kernel_rfl))) rfl rfl
    replace hs:=hs.lrn (ht 5 (zD 32 _ (by kernel_rfl))) rfl rfl
    have hs0:=hs.bare
    refine zK hs (.c rfl (.c rfl (.c rfl .n))) call18 (.c .z .n) (zHM hY20 hk (zFJ hk ⟨by omega,by omega⟩ hI1_4) (λi=>Nat.le_trans (Nat.le_trans (zI7 _ _ _ i) (Nat.succ_le_succ (hI1_6 i))) (by omega)) (Nat.le_trans (Nat.le_trans (zEd _ _ _) (Nat.succ_le_succ (Nat.le_trans (Nat.le_of_eq hI1_8.fr) hI1_7))) (by omega)) (IntKind.i64.wrap (((L.getD j default).at_)+7)) (zBT _) _ (hs.mem.del .z) (hm.rd1 (hL _ (zGR (by omega))).rd (zC4.app _ _))) rfl ?_;clear hs;rintro _ _ a w ⟨rfl,Y31,rfl,hY32⟩ hs
    exact wpList_nil ⟨rfl,(Y31,((gs 6).2.1),((gs 6).2.2)),_,_,hs0,(.c (.c (.c .r))),hs,⟨rfl,hY32⟩⟩
   ·
    intro a_ w_ R_ rest_ vs30 hm hs ht hx
    have hm0:=hm.mid
    have t6:=ht 6 (zD 32 _ (by kernel_rfl))
    have e6:_=some (vs30 6):=t6.val rfl
    rw [show vs30 6=nI (zA7 c (cDo c D (L.getD j default)) (zA ((L.getD j default).bs))) from t6.2.1.1] at e6
    have hY32:Cli z11 c (zBG c (cDo c D (L.getD j default)) (IntKind.i64.wrap (((L.getD j default).at_)+7)) (zA ((L.getD j default).bs))) ((gs 6).1):=t6.2.1.2
    replace hs:=hs.learn e6
    have hs0:=hs.bare
    refine zPQ hs rfl rfl rfl ?_;clear hs;intro a w hs
    have hb_:(!((((zA7 c (cDo c D (L.getD j default)) (zA ((L.getD j default).bs)):Nat):Int):Int)==12))=false:=by rw [h12];rfl
    rw [hb_] at hs;clear hb_
    exact wpList_nil ⟨rfl,_,_,hs0,(.c .r),hs,rfl⟩
   · exact zAN (m:=32) (.c (k:=7) (by kernel_rfl) rfl rfl .n) (λhm0 hm hx=>.n) (by kernel_rfl) (by kernel_rfl) rfl
   · exact zDs (m:=32) rfl (.c (k:=8) (by kernel_rfl) rfl rfl .n) rfl (λhm0 hm hx=>.n) (by kernel_rfl) (by kernel_rfl) rfl
   · exact zDs (m:=32) rfl (.c (k:=8) (by kernel_rfl) rfl rfl .n) rfl (λhm0 hm hx=>.n) (by kernel_rfl) (by kernel_rfl) rfl
   · exact zDs (m:=32) rfl (.c (k:=8) (by kernel_rfl) rfl rfl (.c (k:=10) (by kernel_rfl) rfl rfl .n)) rfl (λhm0 hm hx=>(.c (hm0.del .z))) (by kernel_rfl) (by kernel_rfl) rfl
   ·
    intro a_ w_ R_ rest_ vs30 hm hs ht hx
    have hm0:=hm.mid
    replace hs:=hs.lrn (ht 8 (zD 32 _ (by kernel_rfl))) rfl rfl
    replace hs:=hs.lrn (ht 11 (zD 32 _ (by kernel_rfl))) rfl rfl
    have hs0:=hs.bare
    refine zF hs rfl rfl rfl ?_
    refine zDe hs rfl rfl rfl ?_;clear hs;intro a w hs
    exact wpList_nil ⟨rfl,_,_,hs0,(.c (.c .r)),hs,rfl⟩
   · exact zDs (m:=32) rfl (.c (k:=8) (by kernel_rfl) rfl rfl .n) rfl (λhm0 hm hx=>.n) (by kernel_rfl) (by kernel_rfl) rfl
   ·
    intro a_ w_ R_ rest_ vs30 hm hs ht hx
    replace hs:St _ _ _ (zO [((gs 6).1)]) [((gs 6).1)] _ _:=hs
    have hm0:=hm.mid
    replace hs:=hs.lrn (ht 8 (zD 32 _ (by kernel_rfl))) rfl rfl
    replace hs:=hs.lrn (ht 9 (zD 32 _ (by kernel_rfl))) rfl rfl
    replace hs:=hs.lrn (ht 12 (zD 32 _ (by kernel_rfl))) rfl rfl
    replace hs:=hs.lrn (ht 13 (zD 32 _ (by kernel_rfl))) rfl rfl
    have t6:=ht 6 (zD 32 _ (by kernel_rfl))
    have hY32:Cli z11 c (zBG c (cDo c D (L.getD j default)) (IntKind.i64.wrap (((L.getD j default).at_)+7)) (zA ((L.getD j default).bs))) ((gs 6).1):=t6.2.1.2
    have hs0:=hs.bare
    refine zF hs rfl rfl rfl ?_
    refine zK hs (.c rfl (.c rfl (.c rfl .n))) call18 (.c .z .n) (zHM hY32 hk (zEX hk (zFJ hk ⟨by omega,by omega⟩ hI1_4)) (λi=>Nat.le_trans (Nat.le_trans (zF4 _ _ _ _ i) (Nat.succ_le_succ (Nat.le_trans (zI7 _ _ _ i) (Nat.succ_le_succ (hI1_6 i))))) (by omega)) (Nat.le_trans (Nat.le_trans (zEd _ _ _) (Nat.succ_le_succ (Nat.le_trans (Nat.le_of_eq hI1_8.fr) hI1_7))) (by omega)) (IntKind.i64.wrap (((L.getD j default).at_)+7)) (zBT _) _ (hs.mem.del .z) (hm.midrow (.s (.s (.s (.s (.s (.s (.s .z))))))))) rfl ?_;clear hs;rintro _ _ a w ⟨rfl,Y33,rfl,hY34⟩ hs
    exact wpList_nil ⟨rfl,(((gs 14).1),Y33,((gs 14).2.2)),_,_,hs0,(.c (.c (.c (.c .r)))),hs,⟨rfl,hY34⟩⟩
   ·
    intro a_ w_ R_ rest_ vs30 hm hs ht hx
    have hm0:=hm.mid
    replace hs:=hs.lrn (ht 8 (zD 32 _ (by kernel_rfl))) rfl rfl
    have t14:=ht 14 (zD 32 _ (by kernel_rfl))
    have e14:_=some (vs30 14):=t14.val rfl
    rw [show vs30 14=nI (zA7 c (zBG c (cDo c D (L.getD j default)) (IntKind.i64.wrap (((L.getD j default).at_)+7)) (zA ((L.getD j default).bs))) (zA (((L.getD j default).bs).set (kk/8) ((((L.getD j default).bs).getD (kk/8) 0)^^^((1#8)<<<(kk%8)))))) from t14.2.1.1] at e14
    have hY34:Cli z11 c (zBG c (zBG c (cDo c D (L.getD j default)) (IntKind.i64.wrap (((L.getD j default).at_)+7)) (zA ((L.getD j default).bs))) (IntKind.i64.wrap (((L.getD j default).at_)+7)) (zA (((L.getD j default).bs).set (kk/8) ((((L.getD j default).bs).getD (kk/8) 0)^^^((1#8)<<<(kk%8)))))) ((gs 14).2.1):=t14.2.1.2
    replace hs:=hs.learn e14
    have hs0:=hs.bare
    refine zF hs rfl rfl rfl ?_
    refine zPQ hs rfl rfl rfl ?_;clear hs;intro a w hs
    have hb_:(!((((zA7 c (zBG c (cDo c D (L.getD j default)) (IntKind.i64.wrap (((L.getD j default).at_)+7)) (zA ((L.getD j default).bs))) (zA (((L.getD j default).bs).set (kk/8) ((((L.getD j default).bs).getD (kk/8) 0)^^^((1#8)<<<(kk%8))))):Nat):Int):Int)==9))=false:=by rw [h9];rfl
    rw [hb_] at hs;clear hb_
    exact wpList_nil ⟨rfl,_,_,hs0,(.c (.c .r)),hs,rfl⟩
   · exact zAN (m:=32) (.c (k:=8) (by kernel_rfl) rfl rfl (.c (k:=15) (by kernel_rfl) rfl rfl .n)) (λhm0 hm hx=>.n) (by kernel_rfl) (by kernel_rfl) rfl
   · exact zAN (m:=32) (.c (k:=16) (by kernel_rfl) rfl rfl .n) (λhm0 hm hx=>.n) (by kernel_rfl) (by kernel_rfl) rfl
   · exact zDs (m:=32) rfl (.c (k:=17) (by kernel_rfl) rfl rfl .n) rfl (λhm0 hm hx=>.n) (by kernel_rfl) (by kernel_rfl) rfl
   · exact zDs (m:=32) rfl (.c (k:=17) (by kernel_rfl) rfl rfl .n) rfl (λhm0 hm hx=>.n) (by kernel_rfl) (by kernel_rfl) rfl
   · exact zDs (m:=32) rfl (.c (k:=17) (by kernel_rfl) rfl rfl (.c (k:=19) (by kernel_rfl) rfl rfl .n)) rfl (λhm0 hm hx=>(.c (hm0.del .z))) (by kernel_rfl) (by kernel_rfl) rfl
   ·
    intro a_ w_ R_ rest_ vs30 hm hs ht hx
    have hm0:=hm.mid
    replace hs:=hs.lrn (ht 17 (zD 32 _ (by kernel_rfl))) rfl rfl
    replace hs:=hs.lrn (ht 20 (zD 32 _ (by kernel_rfl))) rfl rfl
    have hs0:=hs.bare
    refine zF hs rfl rfl rfl ?_
    refine zDe hs rfl rfl rfl ?_;clear hs;intro a w hs
    exact wpList_nil ⟨rfl,_,_,hs0,(.c (.c .r)),hs,rfl⟩
   · exact zDs (m:=32) rfl (.c (k:=17) (by kernel_rfl) rfl rfl .n) rfl (λhm0 hm hx=>.n) (by kernel_rfl) (by kernel_rfl) rfl
   · exact zDs (m:=32) rfl (.c (k:=17) (by kernel_rfl) rfl rfl (.c (k:=22) (by kernel_rfl) rfl rfl .n)) rfl (λhm0 hm hx=>(.c (hm0.del .z))) (by kernel_rfl) (by kernel_rfl) rfl
   · exact zDs (m:=32) rfl (.c (k:=17) (by kernel_rfl) rfl rfl .n) rfl (λhm0 hm hx=>.n) (by kernel_rfl) (by kernel_rfl) rfl
   · exact zDs (m:=32) rfl (.c (k:=17) (by kernel_rfl) rfl rfl (.c (k:=24) (by kernel_rfl) rfl rfl .n)) rfl (λhm0 hm hx=>(.c (hm0.del .z))) (by kernel_rfl) (by kernel_rfl) rfl
   ·
    intro a_ w_ R_ rest_ vs30 hm hs ht hx
    have hm0:=hm.mid
    replace hs:=hs.lrn (ht 17 (zD 32 _ (by kernel_rfl))) rfl rfl
    replace hs:=hs.lrn (ht 25 (zD 32 _ (by kernel_rfl))) rfl rfl
    have hs0:=hs.bare
    refine zF hs rfl rfl rfl ?_
    refine zAC hs rfl (hm.rd0 (hL _ (zGR (by omega))).rd).isSl underlying28 rfl ?_;clear hs;intro a w hs
    exact wpList_nil ⟨rfl,_,_,hs0,(.c (.c .r)),hs,rfl⟩
   ·
    intro a_ w_ R_ rest_ vs30 hm hs ht hx
    have hm0:=hm.mid
    replace hs:=hs.lrn (ht 17 (zD 32 _ (by kernel_rfl))) rfl rfl
    replace hs:=hs.lrn (ht 26 (zD 32 _ (by kernel_rfl))) rfl rfl
    have hs0:=hs.bare
    refine zF hs rfl rfl rfl ?_
    refine zHD hs rfl rfl (by omega) rfl ?_;clear hs;intro a w hs
    have hv_:((((L.getD j default).bs.length:Nat):Int)-1:Int)=((((L.getD j default).bs.length-1:Nat):Int):Int):=by omega
    rw [hv_] at hs;clear hv_
    exact wpList_nil ⟨rfl,_,_,hs0,(.c (.c .r)),hs,rfl⟩
   ·
    intro a_ w_ R_ rest_ vs30 hm hs ht hx
    have hm0:=hm.mid
    replace hs:=hs.lrn (ht 17 (zD 32 _ (by kernel_rfl))) rfl rfl
    replace hs:=hs.lrn (ht 23 (zD 32 _ (by kernel_rfl))) rfl rfl
    replace hs:=hs.lrn (ht 27 (zD 32 _ (by kernel_rfl))) rfl rfl
    have hs0:=hs.bare
    refine zF hs rfl rfl rfl ?_
    refine zKq (j:=((L.getD j default).bs.length-1)) hs rfl rfl rfl (hm.rd0 (hL _ (zGR (by omega))).rd) (by omega) underlying28 sizeOf5 rfl ?_;clear hs;intro a w hs
    exact wpList_nil ⟨rfl,_,_,hs0,(.c (.c (.c .r))),hs,rfl⟩
   ·
    intro a_ w_ R_ rest_ vs30 hm hs ht hx
    replace hs:St _ _ _ (zO [((gs 14).2.1)]) [((gs 14).2.1)] _ _:=hs
    have hm0:=hm.mid
    replace hs:=hs.lrn (ht 17 (zD 32 _ (by kernel_rfl))) rfl rfl
    replace hs:=hs.lrn (ht 18 (zD 32 _ (by kernel_rfl))) rfl rfl
    replace hs:=hs.lrn (ht 21 (zD 32 _ (by kernel_rfl))) rfl rfl
    replace hs:=hs.lrn (ht 28 (zD 32 _ (by kernel_rfl))) rfl rfl
    have t14:=ht 14 (zD 32 _ (by kernel_rfl))
    have hY34:Cli z11 c (zBG c (zBG c (cDo c D (L.getD j default)) (IntKind.i64.wrap (((L.getD j default).at_)+7)) (zA ((L.getD j default).bs))) (IntKind.i64.wrap (((L.getD j default).at_)+7)) (zA (((L.getD j default).bs).set (kk/8) ((((L.getD j default).bs).getD (kk/8) 0)^^^((1#8)<<<(kk%8)))))) ((gs 14).2.1):=t14.2.1.2
    have hs0:=hs.bare
    refine zF hs rfl rfl rfl ?_
    refine zK hs (.c rfl (.c rfl (.c rfl .n))) call18 (.c .z .n) (zHM hY34 hk (zEX hk (zEX hk (zFJ hk ⟨by omega,by omega⟩ hI1_4))) (λi=>Nat.le_trans (Nat.le_trans (zF4 _ _ _ _ i) (Nat.succ_le_succ (Nat.le_trans (zF4 _ _ _ _ i) (Nat.succ_le_succ (Nat.le_trans (zI7 _ _ _ i) (Nat.succ_le_succ (hI1_6 i))))))) (by omega)) (Nat.le_trans (Nat.le_trans (zEd _ _ _) (Nat.succ_le_succ (Nat.le_trans (Nat.le_of_eq hI1_8.fr) hI1_7))) (by omega)) (IntKind.i64.wrap (((L.getD j default).at_)+7)) (zBT _) _ (hs.mem.del .z) ((hm.rd1 (hL _ (zGR (by omega))).rd (zC4.app _ _)).slcT (h:=((L.getD j default).bs.length-1)) (by omega))) rfl ?_;clear hs;rintro _ _ a w ⟨rfl,Y35,rfl,hY36⟩ hs
    exact wpList_nil ⟨rfl,(((gs 29).1),((gs 29).2.1),Y35),_,_,hs0,(.c (.c (.c (.c .r)))),hs,⟨rfl,hY36⟩⟩
   ·
    intro a_ w_ R_ rest_ vs30 hm hs ht hx
    have hm0:=hm.mid
    replace hs:=hs.lrn (ht 17 (zD 32 _ (by kernel_rfl))) rfl rfl
    have t29:=ht 29 (zD 32 _ (by kernel_rfl))
    have e29:_=some (vs30 29):=t29.val rfl
    rw [show vs30 29=nI (zA7 c (zBG c (zBG c (cDo c D (L.getD j default)) (IntKind.i64.wrap (((L.getD j default).at_)+7)) (zA ((L.getD j default).bs))) (IntKind.i64.wrap (((L.getD j default).at_)+7)) (zA (((L.getD j default).bs).set (kk/8) ((((L.getD j default).bs).getD (kk/8) 0)^^^((1#8)<<<(kk%8)))))) (zA (((L.getD j default).bs).take ((L.getD j default).bs.length-1)))) from t29.2.1.1] at e29
    have hY36:Cli z11 c (zBG c (zBG c (zBG c (cDo c D (L.getD j default)) (IntKind.i64.wrap (((L.getD j default).at_)+7)) (zA ((L.getD j default).bs))) (IntKind.i64.wrap (((L.getD j default).at_)+7)) (zA (((L.getD j default).bs).set (kk/8) ((((L.getD j default).bs).getD (kk/8) 0)^^^((1#8)<<<(kk%8)))))) (IntKind.i64.wrap (((L.getD j default).at_)+7)) (zA (((L.getD j default).bs).take ((L.getD j default).bs.length-1)))) ((gs 29).2.2):=t29.2.1.2
    replace hs:=hs.learn e29
    have hs0:=hs.bare
    refine zF hs rfl rfl rfl ?_
    refine zCk hs rfl rfl rfl ?_;clear hs;intro a w hs
    have hb_:((((zA7 c (zBG c (zBG c (cDo c D (L.getD j default)) (IntKind.i64.wrap (((L.getD j default).at_)+7)) (zA ((L.getD j default).bs))) (IntKind.i64.wrap (((L.getD j default).at_)+7)) (zA (((L.getD j default).bs).set (kk/8) ((((L.getD j default).bs).getD (kk/8) 0)^^^((1#8)<<<(kk%8)))))) (zA (((L.getD j default).bs).take ((L.getD j default).bs.length-1))):Nat):Int):Int)==0)=false:=zd0 hcut
    rw [hb_] at hs;clear hb_
    exact wpList_nil ⟨rfl,_,_,hs0,(.c (.c .r)),hs,rfl⟩
   exact zAN (m:=32) (.c (k:=17) (by kernel_rfl) rfl rfl (.c (k:=30) (by kernel_rfl) rfl rfl .n)) (λhm0 hm hx=>.n) (by kernel_rfl) (by kernel_rfl) rfl
  clear hs w a;intro a w vs30 gs hs hf
  replace hs:St _ _ _ _ [blk g14 [zI ((L.getD j default).k),zI ((L.getD j default).at_),(L.getD j default).v] 30,blk g18 [.bool ((zGY c C (L.getD j default)).ready),zI ((zGY c C (L.getD j default)).time),v17] 33,blk g23 [.bool ((zGY c C (L.getD j default)).ready),zI ((zGY c C (L.getD j default)).time),v21] 33,row v21 43 6 ((zGY c C (L.getD j default)).l.length) ((zGY c C (L.getD j default)).l.flatMap zA5),row v17 43 6 ((zGY c C (L.getD j default)).l.length) ((zGY c C (L.getD j default)).l.flatMap zA5),Y15,blk g1 [zI c.ring,zI c.window,zI c.base,zI c.gain,zI c.least,zI c.most,zI c.slack,zI c.num,zI c.den,zI c.extra,.bool (c.curve)] 23,row v28 5 1 ((L.getD j default).bs.length) (zC (((L.getD j default).bs).set (kk/8) ((((L.getD j default).bs).getD (kk/8) 0)^^^((1#8)<<<(kk%8))))),((gs 29).2.2)] _ _:=hs
  obtain ⟨e6,q6⟩:=hf 6 (by decide)
  replace e6:_=some (vs30 6):=e6.val rfl
  obtain ⟨q6,hY32⟩:=q6
  rw [show vs30 6=nI (zA7 c (cDo c D (L.getD j default)) (zA ((L.getD j default).bs))) from q6] at e6
  replace hs:=hs.learn e6;clear e6 q6
  obtain ⟨e14,q14⟩:=hf 14 (by decide)
  replace e14:_=some (vs30 14):=e14.val rfl
  obtain ⟨q14,hY34⟩:=q14
  rw [show vs30 14=nI (zA7 c (zBG c (cDo c D (L.getD j default)) (IntKind.i64.wrap (((L.getD j default).at_)+7)) (zA ((L.getD j default).bs))) (zA (((L.getD j default).bs).set (kk/8) ((((L.getD j default).bs).getD (kk/8) 0)^^^((1#8)<<<(kk%8)))))) from q14] at e14
  replace hs:=hs.learn e14;clear e14 q14
  obtain ⟨e29,q29⟩:=hf 29 (by decide)
  replace e29:_=some (vs30 29):=e29.val rfl
  obtain ⟨q29,hY36⟩:=q29
  rw [show vs30 29=nI (zA7 c (zBG c (zBG c (cDo c D (L.getD j default)) (IntKind.i64.wrap (((L.getD j default).at_)+7)) (zA ((L.getD j default).bs))) (IntKind.i64.wrap (((L.getD j default).at_)+7)) (zA (((L.getD j default).bs).set (kk/8) ((((L.getD j default).bs).getD (kk/8) 0)^^^((1#8)<<<(kk%8)))))) (zA (((L.getD j default).bs).take ((L.getD j default).bs.length-1)))) from q29] at e29
  replace hs:=hs.learn e29;clear e29 q29
  obtain ⟨e31,q31⟩:=hf 31 (by decide)
  replace e31:_=some (vs30 31):=e31.val rfl
  rw [show vs30 31 = .bool (false) from q31] at e31
  replace hs:=hs.learn e31;clear e31 q31
  generalize ((gs 6).1)=X37 at hs hY32
  generalize ((gs 14).2.1)=X38 at hs hY34
  generalize ((gs 29).2.2)=X39 at hs hY36
  clear hf
  revert a w hs
  refine goE 2 [] [145,20,19,18,17,2,7,8,41,42,43] .n ?_
  intro a w hs;refine zB (v:=.tuple #[zI ((zBG c (zBG c (zBG c (cDo c D (L.getD j default)) (IntKind.i64.wrap (((L.getD j default).at_)+7)) (zA ((L.getD j default).bs))) (IntKind.i64.wrap (((L.getD j default).at_)+7)) (zA (((L.getD j default).bs).set (kk/8) ((((L.getD j default).bs).getD (kk/8) 0)^^^((1#8)<<<(kk%8)))))) (IntKind.i64.wrap (((L.getD j default).at_)+7)) (zA (((L.getD j default).bs).take ((L.getD j default).bs.length-1)))).K.off),zI ((zBG c (zBG c (zBG c (cDo c D (L.getD j default)) (IntKind.i64.wrap (((L.getD j default).at_)+7)) (zA ((L.getD j default).bs))) (IntKind.i64.wrap (((L.getD j default).at_)+7)) (zA (((L.getD j default).bs).set (kk/8) ((((L.getD j default).bs).getD (kk/8) 0)^^^((1#8)<<<(kk%8)))))) (IntKind.i64.wrap (((L.getD j default).at_)+7)) (zA (((L.getD j default).bs).take ((L.getD j default).bs.length-1)))).K.j),zI ((zBG c (zBG c (zBG c (cDo c D (L.getD j default)) (IntKind.i64.wrap (((L.getD j default).at_)+7)) (zA ((L.getD j default).bs))) (IntKind.i64.wrap (((L.getD j default).at_)+7)) (zA (((L.getD j default).bs).set (kk/8) ((((L.getD j default).bs).getD (kk/8) 0)^^^((1#8)<<<(kk%8)))))) (IntKind.i64.wrap (((L.getD j default).at_)+7)) (zA (((L.getD j default).bs).take ((L.getD j default).bs.length-1)))).K.now)]) hs (.c rfl .n) call20 (zLt hY36  _ (hs.mem.del (.s (.s (.s (.s (.s (.s (.s (.s .z)))))))))) rfl ?_
  refine goL 10 [] [152,23,22,20,19,18,2,7,8,41,42,43] .n ?_
  have hb_:(!(((cDo c D (L.getD j default)).K.off:Int)==((zBG c (zBG c (zBG c (cDo c D (L.getD j default)) (IntKind.i64.wrap (((L.getD j default).at_)+7)) (zA ((L.getD j default).bs))) (IntKind.i64.wrap (((L.getD j default).at_)+7)) (zA (((L.getD j default).bs).set (kk/8) ((((L.getD j default).bs).getD (kk/8) 0)^^^((1#8)<<<(kk%8)))))) (IntKind.i64.wrap (((L.getD j default).at_)+7)) (zA (((L.getD j default).bs).take ((L.getD j default).bs.length-1)))).K.off)))=false:=zdg (congrArg (λK:KS=>K.off) (hrf22.K.symm.trans hr4.K))
  intro a w hs;rw [hb_] at hs;clear hb_
  revert a w hs
  refine go 4 [] [156,153,23,20,19,2,7,8,41,42,43] .n ?_
  have hb_:(!(((cDo c D (L.getD j default)).K.j:Int)==((zBG c (zBG c (zBG c (cDo c D (L.getD j default)) (IntKind.i64.wrap (((L.getD j default).at_)+7)) (zA ((L.getD j default).bs))) (IntKind.i64.wrap (((L.getD j default).at_)+7)) (zA (((L.getD j default).bs).set (kk/8) ((((L.getD j default).bs).getD (kk/8) 0)^^^((1#8)<<<(kk%8)))))) (IntKind.i64.wrap (((L.getD j default).at_)+7)) (zA (((L.getD j default).bs).take ((L.getD j default).bs.length-1)))).K.j)))=false:=zdg (congrArg (λK:KS=>K.j) (hrf22.K.symm.trans hr4.K))
  intro a w hs;rw [hb_] at hs;clear hb_
  revert a w hs
  refine go 5 [] [161,158,20,2,7,8,41,42,43] .n ?_
  have hb_:(!(((cDo c D (L.getD j default)).K.now:Int)==((zBG c (zBG c (zBG c (cDo c D (L.getD j default)) (IntKind.i64.wrap (((L.getD j default).at_)+7)) (zA ((L.getD j default).bs))) (IntKind.i64.wrap (((L.getD j default).at_)+7)) (zA (((L.getD j default).bs).set (kk/8) ((((L.getD j default).bs).getD (kk/8) 0)^^^((1#8)<<<(kk%8)))))) (IntKind.i64.wrap (((L.getD j default).at_)+7)) (zA (((L.getD j default).bs).take ((L.getD j default).bs.length-1)))).K.now)))=false:=zdg (congrArg (λK:KS=>K.now) (hrf22.K.symm.trans hr4.K))
  intro a w hs;rw [hb_] at hs;clear hb_
  revert a w hs
  refine go 3 [] [164,163,20,2,7,8,41,42,43] .n ?_
  intro a w hs;refine zF hs rfl rfl rfl ?_
  refine zB (v:=nI ((zBG c (zBG c (zBG c (cDo c D (L.getD j default)) (IntKind.i64.wrap (((L.getD j default).at_)+7)) (zA ((L.getD j default).bs))) (IntKind.i64.wrap (((L.getD j default).at_)+7)) (zA (((L.getD j default).bs).set (kk/8) ((((L.getD j default).bs).getD (kk/8) 0)^^^((1#8)<<<(kk%8)))))) (IntKind.i64.wrap (((L.getD j default).at_)+7)) (zA (((L.getD j default).bs).take ((L.getD j default).bs.length-1)))).σ.n 0)) hs (.c rfl .n) call17 (zM2 hY36  _ (hs.mem.del (.s (.s (.s (.s (.s (.s (.s (.s .z)))))))))) rfl ?_
  refine goL 2 [] [167,163,2,7,8,41,42,43] .n ?_
  have hb_:(!(((((zBG c (zBG c (zBG c (cDo c D (L.getD j default)) (IntKind.i64.wrap (((L.getD j default).at_)+7)) (zA ((L.getD j default).bs))) (IntKind.i64.wrap (((L.getD j default).at_)+7)) (zA (((L.getD j default).bs).set (kk/8) ((((L.getD j default).bs).getD (kk/8) 0)^^^((1#8)<<<(kk%8)))))) (IntKind.i64.wrap (((L.getD j default).at_)+7)) (zA (((L.getD j default).bs).take ((L.getD j default).bs.length-1)))).σ.n 0:Nat):Int):Int)==(((cDo c D (L.getD j default)).σ.n 0:Nat):Int)))=false:=zc0 (hr4.n0.symm.trans hrf22.n0)
  intro a w hs;rw [hb_] at hs;clear hb_
  revert a w hs
  refine go 3 [] [170,169,2,7,8,41,42,43] .n ?_
  intro a w hs;refine zF hs rfl rfl rfl ?_
  refine zK hs (.c rfl .n) call14 .n (zOr hY36 _ (hs.mem.del (.s (.s (.s (.s (.s (.s (.s (.s .z)))))))))) rfl ?_;clear hs w a;rintro v40 _ a w rfl hs
  refine zF hs rfl rfl rfl ?_
  refine zAC hs rfl (zP (hs.mem.del .z)).isSl underlying56 rfl ?_
  refine goL 1 [] [173,172,169,2,7,8,41,42,43] .n ?_
  intro a w hs;refine zF hs rfl rfl rfl ?_
  refine zK hs (.c rfl .n) call14 .n (zOr hY16 _ (hs.mem.del (.s (.s (.s (.s (.s (.s .z)))))))) rfl ?_;clear hs w a;rintro v41 _ a w rfl hs
  refine zF hs rfl rfl rfl ?_
  refine zAC hs rfl (zP (hs.mem.del .z)).isSl underlying56 rfl ?_
  refine goL 1 [] [176,169,2,7,8,41,42,43] .n ?_
  have hb_:(!(((((zBG c (zBG c (zBG c (cDo c D (L.getD j default)) (IntKind.i64.wrap (((L.getD j default).at_)+7)) (zA ((L.getD j default).bs))) (IntKind.i64.wrap (((L.getD j default).at_)+7)) (zA (((L.getD j default).bs).set (kk/8) ((((L.getD j default).bs).getD (kk/8) 0)^^^((1#8)<<<(kk%8)))))) (IntKind.i64.wrap (((L.getD j default).at_)+7)) (zA (((L.getD j default).bs).take ((L.getD j default).bs.length-1)))).σ.l.length:Nat):Int):Int)==(((cDo c C (L.getD j default)).σ.l.length:Nat):Int)))=false:=zc0 (congrArg List.length hr4.l)
  intro a w hs;rw [hb_] at hs;clear hb_
  revert a w hs
  refine go 4 [] [43,2,7,8,41,42] .n ⟨(by omega),?_⟩
  refine cl (·.drop (.c (.s (.s (.s (.s (.s (.s (.s (.s (.s .z))))))))) (.c (.s (.s (.s (.s (.s (.s .z)))))) (.c (.s (.s (.s (.s (.s .z))))) (.c (.s (.s (.s (.s .z)))) (.c (.s (.s (.s .z))) (.c (.s (.s .z)) (.c (.s .z) (.c .z .n))))))))) ?_
  refine cl (·.reorder (.c .z (.c (.s .z) (.c .z .n)))) ?_
  intro a w hs;refine ⟨_,?_,(j+1),Y15,(cDo c C (L.getD j default)),X39,(zBG c (zBG c (zBG c (cDo c D (L.getD j default)) (IntKind.i64.wrap (((L.getD j default).at_)+7)) (zA ((L.getD j default).bs))) (IntKind.i64.wrap (((L.getD j default).at_)+7)) (zA (((L.getD j default).bs).set (kk/8) ((((L.getD j default).bs).getD (kk/8) 0)^^^((1#8)<<<(kk%8)))))) (IntKind.i64.wrap (((L.getD j default).at_)+7)) (zA (((L.getD j default).bs).take ((L.getD j default).bs.length-1)))),rfl,hs.sub (.c rfl (.c rfl (.c rfl (.c rfl (.c rfl (.c rfl .n)))))),by omega,hY16,hY36,(zFJ hk ⟨by omega,by omega⟩ hI1_3),(zEX hk (zEX hk (zEX hk (zFJ hk ⟨by omega,by omega⟩ hI1_4)))),(λi=>(Nat.le_trans (zI7 _ _ _ i) (Nat.succ_le_succ (hI1_5 i)))),(λi=>Nat.le_trans (Nat.le_trans (zF4 _ _ _ _ i) (Nat.succ_le_succ (Nat.le_trans (zF4 _ _ _ _ i) (Nat.succ_le_succ (Nat.le_trans (zF4 _ _ _ _ i) (Nat.succ_le_succ (Nat.le_trans (zI7 _ _ _ i) (Nat.succ_le_succ (hI1_6 i))))))))) (by omega)),(Nat.le_trans (zEd _ _ _) (Nat.succ_le_succ hI1_7)),hr4⟩
  omega
 refine go 1 [] [6] .n ?_
 refine cl (·.drop (.c (.s (.s .z)) (.c (.s .z) (.c .z .n)))) ?_
 intro a w hs;exact fin hs rfl rfl ⟨rfl,rfl⟩
theorem zLC (c:zAG) (u:Value) (L:List EvR) (at_:Int) (hat:R64 at_) (w0:World) (hu:Rd w0 [] u 3 L.length (L.flatMap evV)) (hL:∀ x∈L,x.ok w0):Calls Tryz.prog 5 #[.agg #[zI c.ring,zI c.window,zI c.base,zI c.gain,zI c.least,zI c.most,zI c.slack,zI c.num,zI c.den,zI c.extra,.bool (c.curve)],u,zI at_] w0 (zAf w0 (.bool true)):=by
 by_cases hg:Grt L
 ·exact zGo c u L at_ hat w0 hu hL (.inl hg)
 ·by_cases hk:zCm c=0
  ·exact zJN c u L at_ hat w0 hu hL hg hk
  ·exact zGo c u L at_ hat w0 hu hL (.inr hk)
end Go.Proofs.YtajjkegcfmhghaaGreat
