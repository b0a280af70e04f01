import Derived.Test.YtljpfgacpofkpaaGreatQG7
import Derived.Test.YtljpfgacpofkpaaGreatQG11
import Derived.Test.YtljpfgacpofkpaaGreatQSxBasB
import Derived.Test.YtljpfgacpofkpaaGreatQG10
import Derived.Test.YtljpfgacpofkpaaGreatQG9
import Derived.Test.YtljpfgacpofkpaaGreatQG8
set_option linter.unusedVariables false
set_option linter.unusedSimpArgs false
namespace Go.Proofs.YtljpfgacpofkpaaGreat
open Tryz
open Go Go.Sx Go.RowKit
set_option maxRecDepth 4000
set_option maxHeartbeats 1000000
theorem zbc (t:Int) (h:0≤t∧t≤65536) (w0:World):Calls Tryz.prog 336 #[zI t] w0 (zAh w0 (.agg #[zI (cW1 t),zI (cW2 t),zI (cW3 t)])):=by
 refine zG (F0:=[(0,zI t)]) func336 rfl rfl rfl (.c .n) (Mem.nil _) ?_
 refine go 3 [] [6,5,2,0] .n (λg1=>?_)
 intro a w hs;refine zB (v:=zI (zA1 t t)) hs (.c rfl (.c rfl .n)) call159 (zDJ t t (by omega) (by omega) _) rfl ?_
 have h2:=zHi h h
 have h3:=zHi h2 h
 refine goL 3 [] [9,8,3,2,0] .n ?_
 intro a w hs;refine zB (v:=zI (zA1 (zA1 t t) t)) hs (.c rfl (.c rfl .n)) call159 (zDJ (zA1 t t) t (zCm _ _) (by omega) _) rfl ?_
 refine goL 17 [0] [2] (.c .z .n) ⟨(by omega),(by omega),(by omega),(by omega),(by omega),(by omega),(by omega),rfl,?_⟩
 intro a w hs;exact zI0 hs rfl rfl .z (.z (.c (.c (.c .n)))) isAgg419 sizeOf419 (.c .z .n) ⟨rfl,rfl⟩
theorem zXR (x p1 q1 p2 q2 p3 q3:Int) (hx : -9223372036854775808≤x∧x≤9223372036854775807) (hp1 : -9223372036854775808≤p1∧p1≤9223372036854775807) (hq1 : -9223372036854775808≤q1∧q1≤9223372036854775807) (hp2 : -9223372036854775808≤p2∧p2≤9223372036854775807) (hq2 : -9223372036854775808≤q2∧q2≤9223372036854775807) (hp3 : -9223372036854775808≤p3∧p3≤9223372036854775807) (hq3 : -9223372036854775808≤q3∧q3≤9223372036854775807) (v:Value) (w0:World) (hb:Rd w0 [] v 2 3 [zI p1,zI q1,zI p2,zI q2,zI p3,zI q3]):Calls Tryz.prog 337 #[.int .i64 x,v] w0 (zAh w0 (zI (zZt x p1 q1 p2 q2 p3 q3))):=by
 refine zG (F0:=[(0,zI x),(1,v)]) func337 rfl rfl rfl (.c (.c .n)) (Mem.nil _) ?_
 refine go 2 [] [7,0] .n ?_
 intro a w hs;refine zAG hs rfl (hs.rd0 hb).isSl underlying424 rfl ?_
 refine cl (·.recell (v':=zI 3) (Option.some.inj rfl)) ?_
 refine goL 1 [] [9,8,7,0] .n ?_
 intro a w hs;refine zCA 3 ?_
 revert a w hs
 refine go 2 [] [9,8,7,0] .n ?_
 intro a w hs;refine zBF (j:=0) hs rfl rfl (hs.rd0 hb) (by decide) (by omega) underlying424 sizeOf423 rfl ?_
 intro a w hs;refine zAx (cs:=[zI p1,zI q1]) hs rfl (hs.rd0 hb) (by rfl) (by simp) (by decide) isAgg423 sizeOf423 rfl ?_
 refine goL 7 [0,0,0] [17,15,13,9,8,7] .n (λg1=>⟨rfl,rfl,rfl,?_⟩)
 intro a w hs;refine zB (v:=zI (zA1 p1 q1)) hs (.c rfl (.c rfl .n)) call159 (zDJ p1 q1 (by omega) (by omega) _) rfl ?_
 intro a w hs;refine zB (v:=zI (zC0 x (zA1 p1 q1))) hs (.c rfl (.c rfl .n)) call147 (zEr x (zA1 p1 q1) (by omega) (zCm _ _) _) rfl ?_
 refine goL 3 [] [9,0,8,7] .n ⟨by decide,?_⟩
 intro a w hs;refine zAL ?_
 revert a w hs
 refine go 2 [] [9,0,8,7] .n ?_
 intro a w hs;refine zBF (j:=1) hs rfl rfl (hs.rd0 hb) (by decide) (by omega) underlying424 sizeOf423 rfl ?_
 intro a w hs;refine zAx (cs:=[zI p2,zI q2]) hs rfl (hs.rd0 hb) (by rfl) (by simp) (by decide) isAgg423 sizeOf423 rfl ?_
 refine goL 7 [0,0,0] [17,15,13,9,8,7] .n (λg2=>⟨rfl,rfl,rfl,?_⟩)
 intro a w hs;refine zB (v:=zI (zA1 p2 q2)) hs (.c rfl (.c rfl .n)) call159 (zDJ p2 q2 (by omega) (by omega) _) rfl ?_
 intro a w hs;refine zB (v:=zI (zC0 (zC0 x (zA1 p1 q1)) (zA1 p2 q2))) hs (.c rfl (.c rfl .n)) call147 (zEr (zC0 x (zA1 p1 q1)) (zA1 p2 q2) (zKI _ _) (zCm _ _) _) rfl ?_
 refine goL 3 [] [9,0,8,7] .n ⟨by decide,?_⟩
 intro a w hs;refine zAL ?_
 revert a w hs
 refine go 2 [] [9,0,8,7] .n ?_
 intro a w hs;refine zBF (j:=2) hs rfl rfl (hs.rd0 hb) (by decide) (by omega) underlying424 sizeOf423 rfl ?_
 intro a w hs;refine zAx (cs:=[zI p3,zI q3]) hs rfl (hs.rd0 hb) (by rfl) (by simp) (by decide) isAgg423 sizeOf423 rfl ?_
 refine goL 7 [0,0,0] [17,15,13,9,8,7] .n (λg3=>⟨rfl,rfl,rfl,?_⟩)
 intro a w hs;refine zB (v:=zI (zA1 p3 q3)) hs (.c rfl (.c rfl .n)) call159 (zDJ p3 q3 (by omega) (by omega) _) rfl ?_
 intro a w hs;refine zB (v:=zI (zC0 (zC0 (zC0 x (zA1 p1 q1)) (zA1 p2 q2)) (zA1 p3 q3))) hs (.c rfl (.c rfl .n)) call147 (zEr (zC0 (zC0 x (zA1 p1 q1)) (zA1 p2 q2)) (zA1 p3 q3) (zKI _ _) (zCm _ _) _) rfl ?_
 refine goL 3 [] [9,0,8,7] .n ⟨by decide,?_⟩
 intro a w hs;refine zAL ?_
 revert a w hs
 refine go 4 [] [4] .n ?_
 refine cl (·.drop (.c (.s (.s .z)) (.c (.s .z) (.c .z .n)))) ?_
 intro a w hs;exact fin hs rfl rfl ⟨rfl,rfl⟩
theorem zTA (x u y v n d:Int) (hx : -9223372036854775808≤x∧x≤9223372036854775807) (hu : -9223372036854775808≤u∧u≤9223372036854775807) (hy : -9223372036854775808≤y∧y≤9223372036854775807) (hv : -9223372036854775808≤v∧v≤9223372036854775807) (w0:World):Calls Tryz.prog 334 #[zI x,zI u,zI y,zI v,zI n,zI d] w0 (zAh w0 (.tuple #[zI (bif zBP n d==0 then cAt x u y v n d else 0),nI (zBP n d)])):=by
 refine zG (F0:=[(0,zI x),(1,zI u),(2,zI y),(3,zI v),(4,zI n),(5,zI d)]) func334 rfl rfl rfl (.c (.c (.c (.c (.c (.c .n)))))) (Mem.nil _) ?_
 refine go 4 [] [20,19,0,1,2,3,4,5] .n ?_
 intro a w hs;refine zB (v:=.tuple #[zI (bif zBP n d==0 then zBr n d else 0),nI (zBP n d)]) hs (.c rfl (.c rfl .n)) call335 (zOB n d _) rfl ?_
 refine goL 8 [] [24,15,14,0,1,2,3,4,5] .n ?_
 refine ifG rfl (λc_1=>?_) (λc_1=>?_)
 ·
  have hbad:=zIH (by assumption)
  refine go 3 [] [13,12] .n ?_
  intro a w hs;exact zBO hs rfl rfl rfl ⟨zRv hbad _,rfl⟩
 have hc0:=zCt (by assumption)
 have hp:=zTC hc0
 have hc1:=zE3 hc0
 obtain ⟨hw1,hw2,hw3⟩:=zbu hp
 intro a w hs;rw [hc0] at hs;simp only [beq_self_eq_true,cond_true] at hs
 revert a w hs
 refine go 3 [] [28,14,0,1,2,3,4,5] .n ?_
 refine ifG rfl (λc_2=>?_) (λc_2=>?_)
 ·
  refine go 3 [] [13,12] .n ?_
  intro a w hs;exact zBO hs rfl rfl rfl ⟨zFi hc0 (zb5 (by assumption)),rfl⟩
 refine go 4 [] [32,14,0,1,2,3,5] .n ?_
 refine ifG rfl (λc_3=>?_) (λc_3=>?_)
 ·
  refine go 3 [] [13,12] .n ?_
  intro a w hs;exact zBO hs rfl rfl rfl ⟨zFi hc0 (zcJ (by assumption) (by assumption)),rfl⟩
 refine go 1 [] [37,0,1,2,3,5] .n ?_
 intro a w hs;refine zB (v:=.agg #[zI (cW1 (zBr n d)),zI (cW2 (zBr n d)),zI (cW3 (zBr n d))]) hs (.c rfl .n) call336 (zbc (zBr n d) (by omega) _) rfl ?_
 refine goL 2 [0] [16,0,1,2,3,5] .n (λg4=>⟨rfl,?_⟩)
 intro a w hs
 refine zAQ [.p [] [],.p [] [],.p [1] [0],.p [] [],.p [] [],.v [4,3] (zI (zBV y x)),.p [5,2] [],.p [] [],.p [7] [0],.p [] [],.p [] [],.v [10,9] (zI (zA1 u d)),.p [11,8] [],.p [] [],.p [13] [0],.p [] [],.p [] [],.v [16,15] (zI (zA1 v d)),.p [17,14] [],.x [18,12,6] ⟨[],[],[],λvs5=>vs5 19 = .slice (some ⟨(zBj (vs5 19)),0,none⟩) 3 3,λvs5=>[blk (zBj (vs5 19)) [zI (cW1 (zBr n d)),zI (zBV y x),zI (cW2 (zBr n d)),zI (zA1 u d),zI (cW3 (zBr n d)),zI (zA1 v d)] 423],none⟩,.y [0] (zI (zZt x (cW1 (zBr n d)) (zBV y x) (cW2 (zBr n d)) (zA1 u d) (cW3 (zBr n d)) (zA1 v d))) [] [] [] λvs5=>[],.p [20] []] [21] hs .n .n (.c .z .n) (by kernel_rfl) ⟨rfl,λ_ _ _ _ hm hs K=>zB (v:=zI (zBV y x)) hs (.c rfl (.c rfl .n)) call91 (zFk y x (by omega) (by omega) _) rfl (vk K),rfl,λ_ _ _ _ hm hs K=>zB (v:=zI (zA1 u d)) hs (.c rfl (.c rfl .n)) call159 (zDJ u d (by omega) (by omega) _) rfl (vk K),rfl,λ_ _ _ _ hm hs K=>zB (v:=zI (zA1 v d)) hs (.c rfl (.c rfl .n)) call159 (zDJ v d (by omega) (by omega) _) rfl (vk K),⟨.n,by kernel_rfl,λ_=>rfl,rfl,rfl⟩,⟨?_,?_,trivial⟩,?_⟩
 ·
  intro a_ w_ R_ rest_ vs5 hm hs ht hx
  have hs0:=hs.bare
  refine zHt (cs:=[zI (cW1 (zBr n d)),zI (zBV y x),zI (cW2 (zBr n d)),zI (zA1 u d),zI (cW3 (zBr n d)),zI (zA1 v d)]) hs (.c (.c (.c .n))) (.c rfl (.c rfl (.c rfl .n))) underlying424 (ie:=Tryz.t423) rfl rfl rfl rfl (by decide) (by decide) rfl (by decide) rfl rfl rfl ?_;clear hs;intro g6 a w hs
  exact wpList_nil ⟨rfl,_,_,hs0,(.c (.c (.c .r))),hs,rfl⟩
 ·
  intro a_ w_ R_ rest_ vs5 hm hs ht hx
  have t19:=ht 19 (zJ 22 _ (by kernel_rfl))
  have e19:_=some (vs5 19):=t19.val rfl
  rw [show vs5 19 = .slice (some ⟨(zBj (vs5 19)),0,none⟩) 3 3 from t19.2.1] at e19
  replace hs:=hs.learn e19
  have hs0:=hs.bare
  refine zB (v:=zI (zZt x (cW1 (zBr n d)) (zBV y x) (cW2 (zBr n d)) (zA1 u d) (cW3 (zBr n d)) (zA1 v d))) hs (.c rfl (.c rfl .n)) call337 (zXR x (cW1 (zBr n d)) (zBV y x) (cW2 (zBr n d)) (zA1 u d) (cW3 (zBr n d)) (zA1 v d) (by omega) (by omega) (zB8 _ _) (by omega) (zCm _ _) (by omega) (zCm _ _) (.slice (some ⟨(zBj (vs5 19)),0,none⟩) 3 3) _ (zAJ (m:=3) (size:=2) (hm.own (List.mem_append.2 (.inr ((ht 19 (zJ 22 _ (by kernel_rfl))).2.2 (zHo (n:=22) (by kernel_rfl)) _ (List.Mem.head _))))) rfl (by decide))) rfl ?_;clear hs;intro a w hs
  exact wpList_nil ⟨rfl,_,_,hs0,(.c (.c .r)),hs,rfl⟩
 clear hs w a;intro vs5 a w hs hf
 generalize zBj (vs5 19)=g7 at hs
 clear hf
 revert a w hs
 refine goE 3 [] [62,61,60] .n ?_
 intro a w hs;refine zB (v:=zI (zAI (zZt x (cW1 (zBr n d)) (zBV y x) (cW2 (zBr n d)) (zA1 u d) (cW3 (zBr n d)) (zA1 v d)) x y)) hs (.c rfl (.c rfl (.c rfl .n))) call65 (zHu (zZt x (cW1 (zBr n d)) (zBV y x) (cW2 (zBr n d)) (zA1 u d) (cW3 (zBr n d)) (zA1 v d)) x y _) rfl ?_
 refine goL 2 [] [13,12] .n ?_
 refine cl (·.drop (.c (.s .z) (.c .z .n))) ?_
 intro a w hs;exact zBO hs rfl rfl rfl ⟨zFi hc0 (zcS (by assumption) (by assumption)),rfl⟩
theorem zYA (x1 x2 x3 u1 u2 u3 y1 y2 y3 v1 v2 v3 n d:Int) (hx1 : -9223372036854775808≤x1∧x1≤9223372036854775807) (hx2 : -9223372036854775808≤x2∧x2≤9223372036854775807) (hx3 : -9223372036854775808≤x3∧x3≤9223372036854775807) (hu1 : -9223372036854775808≤u1∧u1≤9223372036854775807) (hu2 : -9223372036854775808≤u2∧u2≤9223372036854775807) (hu3 : -9223372036854775808≤u3∧u3≤9223372036854775807) (hy1 : -9223372036854775808≤y1∧y1≤9223372036854775807) (hy2 : -9223372036854775808≤y2∧y2≤9223372036854775807) (hy3 : -9223372036854775808≤y3∧y3≤9223372036854775807) (hv1 : -9223372036854775808≤v1∧v1≤9223372036854775807) (hv2 : -9223372036854775808≤v2∧v2≤9223372036854775807) (hv3 : -9223372036854775808≤v3∧v3≤9223372036854775807) (w0:World):Calls Tryz.prog 333 #[.agg #[zI x1,zI x2,zI x3],.agg #[zI u1,zI u2,zI u3],.agg #[zI y1,zI y2,zI y3],.agg #[zI v1,zI v2,zI v3],zI n,zI d] w0 (zAh w0 (.tuple #[.agg #[zI (bif zBP n d==0 then cAt x1 u1 y1 v1 n d else 0),zI (bif zBP n d==0 then cAt x2 u2 y2 v2 n d else 0),zI (bif zBP n d==0 then cAt x3 u3 y3 v3 n d else 0)],nI (zBP n d)])):=by
 refine zG (F0:=[(0,.agg #[zI x1,zI x2,zI x3]),(1,.agg #[zI u1,zI u2,zI u3]),(2,.agg #[zI y1,zI y2,zI y3]),(3,.agg #[zI v1,zI v2,zI v3]),(4,zI n),(5,zI d)]) func333 rfl rfl rfl (.c (.c (.c (.c (.c (.c .n)))))) (Mem.nil _) ?_
 refine go 8 [0,0,0,0] [18,14,12,9,8,7,6,4,5] .n (λg1=>λg2=>λg3=>λg4=>λg5=>λg6=>?_)
 intro a w hs;refine zCA 3 ?_
 revert a w hs
 refine go 4 [] [15,18,14,12,9,8,7,6,4,5] .n ?_
 intro a w hs
 refine zO [.p [] [],.p [0] [],.p [1] [0],.p [] [],.p [3] [],.p [4] [1],.p [] [],.p [6] [],.p [7] [2],.p [] [],.p [9] [],.p [10] [3],.p [] [],.p [] [],.v [13,12,11,8,5,2] (.tuple #[zI (bif zBP n d==0 then cAt x1 u1 y1 v1 n d else 0),nI (zBP n d)]),.p [14] [],.p [15] [],.p [15] [],.p [16] [],.p [17] []] [18,19] hs .n (.c (.s (.s (.s (.s (.s .z))))) (.c (.s (.s (.s (.s .z)))) (.c (.s (.s (.s .z))) (.c (.s (.s .z)) .n)))) (by kernel_rfl) ⟨rfl,rfl,rfl,rfl,λ_ _ _ _ hm hs K=>zB (v:=.tuple #[zI (bif zBP n d==0 then cAt x1 u1 y1 v1 n d else 0),nI (zBP n d)]) hs (.c rfl (.c rfl (.c rfl (.c rfl (.c rfl (.c rfl .n)))))) call334 (zTA x1 u1 y1 v1 n d (by omega) (by omega) (by omega) (by omega) _) rfl (vk K),⟨rfl,by kernel_rfl,λ_=>rfl,rfl,rfl,trivial⟩,λ_=>rfl,?_⟩
 refine goE 2 [] [40,17,16,15,18,14,12,9,8,7,6,4,5] .n ?_
 refine ifG rfl (λc_8=>?_) (λc_8=>?_)
 ·
  have hbad:=zIH (by assumption)
  refine go 4 [0] [13,12] (.c (.s .z) .n) ⟨rfl,?_⟩
  intro a w hs;exact zBM hs rfl rfl rfl .z (.z (.c (.c (.c .n)))) isAgg40 sizeOf40 (.c (.s (.s (.s (.s (.s .z))))) (.c (.s (.s (.s (.s .z)))) (.c (.s (.s (.s .z))) (.c (.s (.s .z)) (.c (.s .z) (.c .z .n)))))) ⟨zSE hbad _ _ _,rfl⟩
 have hc0:=zCt (by assumption)
 intro a w hs;rw [hc0] at hs;simp only [beq_self_eq_true,cond_true] at hs
 revert a w hs
 refine go 6 [0] [18,14,12,9,8,7,6,4,5] (.c .z .n) ⟨rfl,by decide,?_⟩
 intro a w hs;refine zAL ?_
 revert a w hs
 refine go 4 [] [15,18,14,12,9,8,7,6,4,5] .n ?_
 intro a w hs
 refine zO [.p [] [],.p [0] [],.p [1] [0],.p [] [],.p [3] [],.p [4] [1],.p [] [],.p [6] [],.p [7] [2],.p [] [],.p [9] [],.p [10] [3],.p [] [],.p [] [],.v [13,12,11,8,5,2] (.tuple #[zI (bif zBP n d==0 then cAt x2 u2 y2 v2 n d else 0),nI (zBP n d)]),.p [14] [],.p [15] [],.p [15] [],.p [16] [],.p [17] []] [18,19] hs .n (.c (.s (.s (.s (.s (.s .z))))) (.c (.s (.s (.s (.s .z)))) (.c (.s (.s (.s .z))) (.c (.s (.s .z)) .n)))) (by kernel_rfl) ⟨rfl,rfl,rfl,rfl,λ_ _ _ _ hm hs K=>zB (v:=.tuple #[zI (bif zBP n d==0 then cAt x2 u2 y2 v2 n d else 0),nI (zBP n d)]) hs (.c rfl (.c rfl (.c rfl (.c rfl (.c rfl (.c rfl .n)))))) call334 (zTA x2 u2 y2 v2 n d (by omega) (by omega) (by omega) (by omega) _) rfl (vk K),⟨rfl,by kernel_rfl,λ_=>rfl,rfl,rfl,trivial⟩,λ_=>rfl,?_⟩
 refine goE 2 [] [40,17,16,15,18,14,12,9,8,7,6,4,5] .n ?_
 refine ifG rfl (λc_10=>?_) (λc_10=>?_)
 ·
  exfalso;omega
 intro a w hs;rw [hc0] at hs;simp only [beq_self_eq_true,cond_true] at hs
 revert a w hs
 refine go 6 [0] [18,14,12,9,8,7,6,4,5] (.c .z .n) ⟨rfl,by decide,?_⟩
 intro a w hs;refine zAL ?_
 revert a w hs
 refine go 4 [] [15,18,14,12,9,8,7,6,4,5] .n ?_
 intro a w hs
 refine zO [.p [] [],.p [0] [],.p [1] [0],.p [] [],.p [3] [],.p [4] [1],.p [] [],.p [6] [],.p [7] [2],.p [] [],.p [9] [],.p [10] [3],.p [] [],.p [] [],.v [13,12,11,8,5,2] (.tuple #[zI (bif zBP n d==0 then cAt x3 u3 y3 v3 n d else 0),nI (zBP n d)]),.p [14] [],.p [15] [],.p [15] [],.p [16] [],.p [17] []] [18,19] hs .n (.c (.s (.s (.s (.s (.s .z))))) (.c (.s (.s (.s (.s .z)))) (.c (.s (.s (.s .z))) (.c (.s (.s .z)) .n)))) (by kernel_rfl) ⟨rfl,rfl,rfl,rfl,λ_ _ _ _ hm hs K=>zB (v:=.tuple #[zI (bif zBP n d==0 then cAt x3 u3 y3 v3 n d else 0),nI (zBP n d)]) hs (.c rfl (.c rfl (.c rfl (.c rfl (.c rfl (.c rfl .n)))))) call334 (zTA x3 u3 y3 v3 n d (by omega) (by omega) (by omega) (by omega) _) rfl (vk K),⟨rfl,by kernel_rfl,λ_=>rfl,rfl,rfl,trivial⟩,λ_=>rfl,?_⟩
 refine goE 2 [] [40,17,16,15,18,14,12,9,8,7,6,4,5] .n ?_
 refine ifG rfl (λc_12=>?_) (λc_12=>?_)
 ·
  exfalso;omega
 intro a w hs;rw [hc0] at hs;simp only [beq_self_eq_true,cond_true] at hs
 revert a w hs
 refine go 6 [0] [18,14,12,9,8,7,6,4,5] (.c .z .n) ⟨rfl,by decide,?_⟩
 intro a w hs;refine zAL ?_
 revert a w hs
 refine go 5 [0,1] [13,12] (.c .z (.c .z .n)) ⟨rfl,rfl,?_⟩
 intro a w hs;exact zBM hs rfl rfl rfl (.s .z) (.z (.c (.c (.c .n)))) isAgg40 sizeOf40 (.c (.s (.s (.s (.s (.s .z))))) (.c (.s (.s (.s (.s .z)))) (.c (.s (.s (.s .z))) (.c (.s (.s .z)) (.c (.s .z) (.c .z .n)))))) ⟨zUn hc0,rfl⟩
theorem zNo (x y:Int) (w0:World):Calls Tryz.prog 107 #[zI x,zI y] w0 (zAh w0 (nI (zHM x y))):=by
 refine zG (F0:=[(0,zI x),(1,zI y)]) func107 rfl rfl rfl (.c (.c .n)) (Mem.nil _) ?_
 refine go 6 [] [9,0,1] .n ?_
 intro a w hs;refine zX (b:=decide ((min x y)<1)) (λc_1=>?_) (λc_1=>?_)
 ·
  rw [c_1] at hs
  replace c_1:=of_decide_eq_true c_1
  revert a w hs
  refine go 7 [] [4] .n ?_
  intro a w hs;exact fin hs rfl rfl ⟨congrArg (λn:Nat=>Value.int .i64 (n:Int)) (zWu (by omega)).symm,rfl⟩
 rw [c_1] at hs
 replace c_1:=of_decide_eq_false c_1
 revert a w hs
 refine go 5 [] [14] .n ?_
 refine ifG rfl (λc_2=>?_) (λc_2=>?_)
 ·
  refine go 1 [] [4] .n ?_
  intro a w hs;exact fin hs rfl rfl ⟨congrArg (λn:Nat=>Value.int .i64 (n:Int)) (zWu (by omega)).symm,rfl⟩
 refine go 1 [] [4] .n ?_
 intro a w hs;exact fin hs rfl rfl ⟨congrArg (λn:Nat=>Value.int .i64 (n:Int)) (zaZ (by assumption) (by assumption)).symm,rfl⟩
theorem zOC (x n d:Int) (hx : -9223372036854775808≤x∧x≤9223372036854775807) (w0:World):Calls Tryz.prog 106 #[zI x,zI n,zI d] w0 (zAh w0 (.tuple #[zI (bif zHM n d==0 then zED x n d else 0),nI (zHM n d)])):=by
 refine zG (F0:=[(0,zI x),(1,zI n),(2,zI d)]) func106 rfl rfl rfl (.c (.c (.c .n))) (Mem.nil _) ?_
 refine go 4 [] [14,13,0,1,2] .n ?_
 intro a w hs;refine zB (v:=nI (zHM n d)) hs (.c rfl (.c rfl .n)) call107 (zNo n d _) rfl ?_
 refine goL 3 [] [17,8,0,1,2] .n ?_
 refine ifG rfl (λc_1=>?_) (λc_1=>?_)
 ·
  have hbad:=zIH (by assumption)
  refine go 3 [] [7,6] .n ?_
  intro a w hs;exact zBO hs rfl rfl rfl ⟨zX9 hbad _,rfl⟩
 have hc0:=zCt (by assumption)
 have hc1:=zJy hc0
 refine go 2 [] [21,1,2] .n ?_
 intro a w hs;refine zAg hs rfl underlying2 underlying252 rfl ?_
 refine goL 1 [] [23,22,2] .n ?_
 intro a w hs;refine zAg hs rfl underlying2 underlying252 rfl ?_
 intro a w hs;refine zB (v:=.tuple #[qI (mHi (BitVec.ofInt 64 (max 0 x)) (BitVec.ofInt 64 n)),qI ((BitVec.ofInt 64 (max 0 x))*(BitVec.ofInt 64 n))]) hs (.c rfl (.c rfl .n)) call157 (zJ8 (BitVec.ofInt 64 (max 0 x)) (BitVec.ofInt 64 n) _) rfl ?_
 refine goL 7 [] [29,28,10,9,2] .n ?_
 intro a w hs;refine zAg hs rfl underlying2 underlying252 rfl ?_
 refine goL 1 [] [31,10,9,2] .n ?_
 refine ifG rfl (λc_2=>?_) (λc_2=>?_)
 ·
  refine go 2 [] [7,6] .n ?_
  intro a w hs;exact zBO hs rfl rfl rfl ⟨zOQ hc0 (zUG (by omega) hc0 (by assumption)),rfl⟩
 refine go 3 [] [35,34,33] .n ?_
 intro a w hs;refine zAg hs rfl underlying2 underlying252 rfl ?_
 intro a w hs;refine zB (v:=.tuple #[qI (dQ (mHi (BitVec.ofInt 64 (max 0 x)) (BitVec.ofInt 64 n)) ((BitVec.ofInt 64 (max 0 x))*(BitVec.ofInt 64 n)) (BitVec.ofInt 64 d)),qI (dR (mHi (BitVec.ofInt 64 (max 0 x)) (BitVec.ofInt 64 n)) ((BitVec.ofInt 64 (max 0 x))*(BitVec.ofInt 64 n)) (BitVec.ofInt 64 d))]) hs (.c rfl (.c rfl (.c rfl .n))) call158 (zNe (mHi (BitVec.ofInt 64 (max 0 x)) (BitVec.ofInt 64 n)) ((BitVec.ofInt 64 (max 0 x))*(BitVec.ofInt 64 n)) (BitVec.ofInt 64 d) (by omega) _) rfl ?_
 refine goL 6 [] [40] .n ?_
 intro a w hs;refine zY4 hs rfl rfl rfl ?_
 intro a w hs;rw [zMX] at hs;have hmu:=zOa (dQ (mHi (BitVec.ofInt 64 (max 0 x)) (BitVec.ofInt 64 n)) ((BitVec.ofInt 64 (max 0 x))*(BitVec.ofInt 64 n)) (BitVec.ofInt 64 d))
 refine zAV (X:=zbY (dQ (mHi (BitVec.ofInt 64 (max 0 x)) (BitVec.ofInt 64 n)) ((BitVec.ofInt 64 (max 0 x))*(BitVec.ofInt 64 n)) (BitVec.ofInt 64 d))) hs rfl rfl underlying252 underlying2 rfl ?_
 refine goL 3 [] [7,6] .n ⟨(by omega),?_⟩
 intro a w hs;exact zBO hs rfl rfl rfl ⟨zOQ hc0 (zYO (by omega) hc0 (by assumption)),rfl⟩
theorem zQq (x n d:Int) (hx : -9223372036854775808≤x∧x≤9223372036854775807) (hc:zHM n d=0) (w0:World):Calls Tryz.prog 106 #[zI x,zI n,zI d] w0 (zAh w0 (.tuple #[zI (zED x n d),zI 0])):=by
 have h:=zOC x n d hx w0
 rw [hc] at h
 exact h
theorem zba (g:Nat) (n d s t b k x:Int) (hs : -9223372036854775808≤s∧s≤9223372036854775807) (ht : -9223372036854775808≤t∧t≤9223372036854775807) (hk : -9223372036854775808≤k∧k≤9223372036854775807) (hx : -9223372036854775808≤x∧x≤9223372036854775807) (hc:zHM n d=0) (w0:World) (hg:(blk g [zI n,zI d,zI s,zI t,zI b] 193).p w0):Calls Tryz.prog 99 #[pt g 0,.int .i64 k,.int .i64 x] w0 (Ret w0 [g] λu N=>u = .tuple #[zI (sS n d s t b k x),zI 0]∧N=[blk g [zI n,zI d,zI (sS n d s t b k x),zI (sT t b k),zI 1] 193]):=by
 refine zG (F0:=[(0,pt g 0),(1,zI k),(2,zI x)]) func99 rfl rfl rfl (.c (.c (.c .n))) (zAq hg) ?_
 refine goF 32 10 [0] [14,0,1,2] (.c .z .n) ⟨rfl,?_⟩
 intro a w hs;refine zZx (λa w=>∃ p:Int,∃ q:Int,St 80 [(0,pt g 0),(1,zI k),(2,zI x)] w0 [g] [blk g [zI n,zI d,zI p,zI q,zI b] 193] a w∧p=sP b x s∧q=sP b k t) ?_ ?_
 ·
  revert a w hs
  refine go 2 [] [15,0,1,2] .n ?_
  refine ifG rfl (λc_1=>?_) (λc_1=>?_)
  ·
   refine go 10 [0,0] [0,1,2] (.c .z .n) ⟨rfl,rfl,?_⟩
   intro a w hs;exact ⟨x,k,hs.sub (.c rfl (.c rfl (.c rfl .n))),by unfold sP;first | (rw [if_pos (by assumption)]) | (rw [if_neg (by assumption)]),by unfold sP;first | (rw [if_pos (by assumption)]) | (rw [if_neg (by assumption)])⟩
  refine go 0 [] [0,1,2] .n ?_
  intro a w hs;exact ⟨s,t,hs.sub (.c rfl (.c rfl (.c rfl .n))),by unfold sP;first | (rw [if_pos (by assumption)]) | (rw [if_neg (by assumption)]),by unfold sP;first | (rw [if_pos (by assumption)]) | (rw [if_neg (by assumption)])⟩
 clear hs w a;rintro a w ⟨p,q,hs,hJ2,hJ3⟩
 have hp1:=hJ2;have hq1:=hJ3;have hpr:(-9223372036854775808≤p∧p≤9223372036854775807)∧(-9223372036854775808≤q∧q≤9223372036854775807):=by unfold sP at hp1 hq1;split at hp1<;>omega
 revert a w hs
 refine go 0 [] [0,1,2] .n ?_
 intro a w hs
 refine zO [.p [] [],.p [] [],.p [1] [],.p [2] [],.p [3] [0],.p [4,0] [],.p [] [],.p [6] [],.p [7] [],.p [8] [0],.v [9,5] (zI (zBV (max k q) q)),.p [] [],.p [11] [],.p [12] [],.p [13] [0],.p [] [],.p [15] [],.p [16] [],.p [17] [0],.v [18,14,10] (.tuple #[zI (zED (zBV (max k q) q) n d),zI 0]),.p [19] [],.p [20] [],.p [20] [],.p [21] []] [23] hs .n (.c .z .n) (by kernel_rfl) ⟨rfl,rfl,λ_ _ _ _ hm hs K=>zB (v:=zI (zBV (max k q) q)) hs (.c rfl (.c rfl .n)) call91 (zFk (max k q) q (by omega) (by omega) _) rfl (vk K),rfl,rfl,λ_ _ _ _ hm hs K=>zB (v:=.tuple #[zI (zED (zBV (max k q) q) n d),zI 0]) hs (.c rfl (.c rfl (.c rfl .n))) call106 (zQq (zBV (max k q) q) n d (zB8 _ _) hc _) rfl (vk K),⟨rfl,by kernel_rfl,λ_=>rfl,rfl,rfl,trivial⟩,λ_=>rfl,?_⟩
 refine goE 14 [0,0,0] [8,0,2] (.c .z .n) ⟨rfl,rfl,rfl,?_⟩
 intro a w hs
 refine zO [.p [] [],.p [] [],.p [1] [],.p [2] [],.l [3] [0] [16] [],.p [] [],.p [] [],.p [6] [],.p [7] [],.l [8] [0] [16] [],.p [] [],.v [10,9] (zI (zC0 p (zED (zBV (max k q) q) n d))),.p [11,5] [],.p [12,4] [],.p [0] [],.p [14] [],.s [15,13] [0] [0] []] [] hs (.c .z .n) .n (by kernel_rfl) ⟨rfl,rfl,λ_ _ _ _ hm hs K=>zB (v:=zI (zC0 p (zED (zBV (max k q) q) n d))) hs (.c rfl (.c rfl .n)) call147 (zEr p (zED (zBV (max k q) q) n d) (by omega) (zYj hc) _) rfl (vk K),rfl,⟨rfl,by kernel_rfl,λ_=>rfl,rfl,rfl,trivial⟩,λ_=>rfl,?_⟩
 refine goE 6 [0] [7,6] (.c .z .n) ⟨rfl,?_⟩
 intro a w hs;exact zBO hs rfl rfl rfl ⟨by rw [hp1,hq1];rfl,by rw [hp1,hq1];rfl⟩
theorem zUh (n d:Int) (hc:zHM n d=0) (w0:World):Calls Tryz.prog 69 #[.int .i64 n,.int .i64 d] w0 (Ret w0 [] λu N=>∃ r,u = .tuple #[pt r 0,.int .i64 0]∧N=[blk r [zI n,zI d,zI 0,zI 0,zI 0] 193]):=by
 refine zG (F0:=[(0,zI n),(1,zI d)]) func69 rfl rfl rfl (.c (.c .n)) (Mem.nil _) ?_
 refine go 4 [] [8,7,0,1] .n ?_
 intro a w hs;refine zB (v:=nI (zHM n d)) hs (.c rfl (.c rfl .n)) call107 (zNo n d _) rfl ?_
 refine goL 3 [] [11,6,0,1] .n ?_
 refine ifG rfl (λc_1=>?_) (λc_1=>?_)
 ·
  exfalso;omega
 refine go 6 [0] [5,4] .n (λg2=>?_)
 intro a w hs;exact zBO hs rfl rfl rfl ⟨_,rfl,rfl⟩
theorem zXq (c:zAS) (w0:World):Calls Tryz.prog 156 #[.agg #[zI c.ring,zI c.window,zI c.base,zI c.gain,zI c.least,zI c.most,zI c.slack,zI c.num,zI c.den,zI c.extra,.bool (c.curve)]] w0 (zAh w0 (.agg #[zI c.base,zI 2305843009213693952,zI c.least,zI 2305843009213693952,zI c.most,zI 2305843009213693952,zI c.slack,zI 2305843009213693952,zI c.gain,zI 68719476736])):=by
 refine zG (F0:=[(0,.agg #[zI c.ring,zI c.window,zI c.base,zI c.gain,zI c.least,zI c.most,zI c.slack,zI c.num,zI c.den,zI c.extra,.bool (c.curve)])]) func156 rfl rfl rfl (.c .n) (Mem.nil _) ?_
 refine go 19 [0,1,1,1,1,1,0] [2] .n (λg1=>λg2=>⟨rfl,rfl,rfl,rfl,rfl,rfl,?_⟩)
 intro a w hs;exact zI0 hs rfl rfl .z (.z (.c (.c (.c (.c (.c (.c (.c (.c (.c (.c .n))))))))))) isAgg250 sizeOf250 (.c (.s .z) (.c .z .n)) ⟨rfl,rfl⟩
theorem zMT (c:zAS) (w0:World):Calls Tryz.prog 105 #[.agg #[zI c.ring,zI c.window,zI c.base,zI c.gain,zI c.least,zI c.most,zI c.slack,zI c.num,zI c.den,zI c.extra,.bool (c.curve)]] w0 (zAh w0 (nI (zHL c))):=by
 refine zG (F0:=[(0,.agg #[zI c.ring,zI c.window,zI c.base,zI c.gain,zI c.least,zI c.most,zI c.slack,zI c.num,zI c.den,zI c.extra,.bool (c.curve)])]) func105 rfl rfl rfl (.c .n) (Mem.nil _) ?_
 refine go 3 [0,0] [5,1] .n (λg1=>⟨rfl,?_⟩)
 intro a w hs;refine zB (v:=.agg #[zI c.base,zI 2305843009213693952,zI c.least,zI 2305843009213693952,zI c.most,zI 2305843009213693952,zI c.slack,zI 2305843009213693952,zI c.gain,zI 68719476736]) hs (.c rfl .n) call156 (zXq c _) rfl ?_
 refine goL 1 [] [7,6,1] .n ?_
 intro a w hs;refine zCA 5 ?_
 revert a w hs
 refine go 9 [0,0] [13,4,7,6,1] .n (λg2=>⟨rfl,rfl,?_⟩)
 intro a w hs;refine zX (b:=decide (c.base<0)) (λc_3=>?_) (λc_3=>?_)
 ·
  rw [c_3] at hs
  replace c_3:=of_decide_eq_true c_3
  revert a w hs
  refine go 8 [] [2] .n ?_
  refine cl (·.drop (.c (.s .z) (.c .z .n))) ?_
  intro a w hs;exact fin hs rfl rfl ⟨congrArg (λn:Nat=>Value.int .i64 (n:Int)) (zFb (by unfold zKW;omega)),rfl⟩
 rw [c_3] at hs
 replace c_3:=of_decide_eq_false c_3
 revert a w hs
 refine go 6 [0,0] [19,7,6,1] (.c .z .n) ⟨rfl,rfl,?_⟩
 refine ifG rfl (λc_4=>?_) (λc_4=>?_)
 ·
  refine go 1 [] [2] .n ?_
  refine cl (·.drop (.c (.s .z) (.c .z .n))) ?_
  intro a w hs;exact fin hs rfl rfl ⟨congrArg (λn:Nat=>Value.int .i64 (n:Int)) (zFb (by unfold zKW;omega)),rfl⟩
 refine go 2 [] [7,6,1] .n ⟨by decide,?_⟩
 intro a w hs;refine zAL ?_
 revert a w hs
 refine go 9 [0,0] [13,4,7,6,1] .n (λg5=>⟨rfl,rfl,?_⟩)
 intro a w hs;refine zX (b:=decide (c.least<0)) (λc_6=>?_) (λc_6=>?_)
 ·
  rw [c_6] at hs
  replace c_6:=of_decide_eq_true c_6
  revert a w hs
  refine go 8 [] [2] .n ?_
  refine cl (·.drop (.c (.s (.s .z)) (.c (.s .z) (.c .z .n)))) ?_
  intro a w hs;exact fin hs rfl rfl ⟨congrArg (λn:Nat=>Value.int .i64 (n:Int)) (zFb (by unfold zKW;omega)),rfl⟩
 rw [c_6] at hs
 replace c_6:=of_decide_eq_false c_6
 revert a w hs
 refine go 6 [0,0] [19,7,6,1] (.c .z .n) ⟨rfl,rfl,?_⟩
 refine ifG rfl (λc_7=>?_) (λc_7=>?_)
 ·
  refine go 1 [] [2] .n ?_
  refine cl (·.drop (.c (.s (.s .z)) (.c (.s .z) (.c .z .n)))) ?_
  intro a w hs;exact fin hs rfl rfl ⟨congrArg (λn:Nat=>Value.int .i64 (n:Int)) (zFb (by unfold zKW;omega)),rfl⟩
 refine go 2 [] [7,6,1] .n ⟨by decide,?_⟩
 intro a w hs;refine zAL ?_
 revert a w hs
 refine go 9 [0,0] [13,4,7,6,1] .n (λg8=>⟨rfl,rfl,?_⟩)
 intro a w hs;refine zX (b:=decide (c.most<0)) (λc_9=>?_) (λc_9=>?_)
 ·
  rw [c_9] at hs
  replace c_9:=of_decide_eq_true c_9
  revert a w hs
  refine go 8 [] [2] .n ?_
  refine cl (·.drop (.c (.s (.s (.s .z))) (.c (.s (.s .z)) (.c (.s .z) (.c .z .n))))) ?_
  intro a w hs;exact fin hs rfl rfl ⟨congrArg (λn:Nat=>Value.int .i64 (n:Int)) (zFb (by unfold zKW;omega)),rfl⟩
 rw [c_9] at hs
 replace c_9:=of_decide_eq_false c_9
 revert a w hs
 refine go 6 [0,0] [19,7,6,1] (.c .z .n) ⟨rfl,rfl,?_⟩
 refine ifG rfl (λc_10=>?_) (λc_10=>?_)
 ·
  refine go 1 [] [2] .n ?_
  refine cl (·.drop (.c (.s (.s (.s .z))) (.c (.s (.s .z)) (.c (.s .z) (.c .z .n))))) ?_
  intro a w hs;exact fin hs rfl rfl ⟨congrArg (λn:Nat=>Value.int .i64 (n:Int)) (zFb (by unfold zKW;omega)),rfl⟩
 refine go 2 [] [7,6,1] .n ⟨by decide,?_⟩
 intro a w hs;refine zAL ?_
 revert a w hs
 refine go 9 [0,0] [13,4,7,6,1] .n (λg11=>⟨rfl,rfl,?_⟩)
 intro a w hs;refine zX (b:=decide (c.slack<0)) (λc_12=>?_) (λc_12=>?_)
 ·
  rw [c_12] at hs
  replace c_12:=of_decide_eq_true c_12
  revert a w hs
  refine go 8 [] [2] .n ?_
  refine cl (·.drop (.c (.s (.s (.s (.s .z)))) (.c (.s (.s (.s .z))) (.c (.s (.s .z)) (.c (.s .z) (.c .z .n)))))) ?_
  intro a w hs;exact fin hs rfl rfl ⟨congrArg (λn:Nat=>Value.int .i64 (n:Int)) (zFb (by unfold zKW;omega)),rfl⟩
 rw [c_12] at hs
 replace c_12:=of_decide_eq_false c_12
 revert a w hs
 refine go 6 [0,0] [19,7,6,1] (.c .z .n) ⟨rfl,rfl,?_⟩
 refine ifG rfl (λc_13=>?_) (λc_13=>?_)
 ·
  refine go 1 [] [2] .n ?_
  refine cl (·.drop (.c (.s (.s (.s (.s .z)))) (.c (.s (.s (.s .z))) (.c (.s (.s .z)) (.c (.s .z) (.c .z .n)))))) ?_
  intro a w hs;exact fin hs rfl rfl ⟨congrArg (λn:Nat=>Value.int .i64 (n:Int)) (zFb (by unfold zKW;omega)),rfl⟩
 refine go 2 [] [7,6,1] .n ⟨by decide,?_⟩
 intro a w hs;refine zAL ?_
 revert a w hs
 refine go 9 [0,0] [13,4,7,6,1] .n (λg14=>⟨rfl,rfl,?_⟩)
 intro a w hs;refine zX (b:=decide (c.gain<0)) (λc_15=>?_) (λc_15=>?_)
 ·
  rw [c_15] at hs
  replace c_15:=of_decide_eq_true c_15
  revert a w hs
  refine go 8 [] [2] .n ?_
  refine cl (·.drop (.c (.s (.s (.s (.s (.s .z))))) (.c (.s (.s (.s (.s .z)))) (.c (.s (.s (.s .z))) (.c (.s (.s .z)) (.c (.s .z) (.c .z .n))))))) ?_
  intro a w hs;exact fin hs rfl rfl ⟨congrArg (λn:Nat=>Value.int .i64 (n:Int)) (zFb (by unfold zKW;omega)),rfl⟩
 rw [c_15] at hs
 replace c_15:=of_decide_eq_false c_15
 revert a w hs
 refine go 6 [0,0] [19,7,6,1] (.c .z .n) ⟨rfl,rfl,?_⟩
 refine ifG rfl (λc_16=>?_) (λc_16=>?_)
 ·
  refine go 1 [] [2] .n ?_
  refine cl (·.drop (.c (.s (.s (.s (.s (.s .z))))) (.c (.s (.s (.s (.s .z)))) (.c (.s (.s (.s .z))) (.c (.s (.s .z)) (.c (.s .z) (.c .z .n))))))) ?_
  intro a w hs;exact fin hs rfl rfl ⟨congrArg (λn:Nat=>Value.int .i64 (n:Int)) (zFb (by unfold zKW;omega)),rfl⟩
 refine go 2 [] [7,6,1] .n ⟨by decide,?_⟩
 intro a w hs;refine zAL ?_
 revert a w hs
 refine go 7 [0,0] [25] (.c (.s (.s (.s (.s (.s .z))))) .n) ⟨rfl,rfl,?_⟩
 refine ifG rfl (λc_17=>?_) (λc_17=>?_)
 ·
  refine go 1 [] [2] .n ?_
  refine cl (·.drop (.c (.s (.s (.s (.s (.s .z))))) (.c (.s (.s (.s (.s .z)))) (.c (.s (.s (.s .z))) (.c (.s (.s .z)) (.c (.s .z) (.c .z .n))))))) ?_
  intro a w hs;exact fin hs rfl rfl ⟨congrArg (λn:Nat=>Value.int .i64 (n:Int)) (zYt (by unfold zKW;omega) (by omega)),rfl⟩
 refine go 1 [] [2] .n ?_
 refine cl (·.drop (.c (.s (.s (.s (.s (.s .z))))) (.c (.s (.s (.s (.s .z)))) (.c (.s (.s (.s .z))) (.c (.s (.s .z)) (.c (.s .z) (.c .z .n))))))) ?_
 intro a w hs;exact fin hs rfl rfl ⟨congrArg (λn:Nat=>Value.int .i64 (n:Int)) (zbM (by unfold zKW;omega) (by omega)),rfl⟩
theorem zRK (c:zAS) (j:Int) (hj : -9223372036854775808≤j∧j≤9223372036854775807) (w0:World):Calls Tryz.prog 108 #[.agg #[zI c.ring,zI c.window,zI c.base,zI c.gain,zI c.least,zI c.most,zI c.slack,zI c.num,zI c.den,zI c.extra,.bool (c.curve)],zI j] w0 (zAh w0 (zI (zIv c j))):=by
 refine zG (F0:=[(0,.agg #[zI c.ring,zI c.window,zI c.base,zI c.gain,zI c.least,zI c.most,zI c.slack,zI c.num,zI c.den,zI c.extra,.bool (c.curve)]),(1,zI j)]) func108 rfl rfl rfl (.c (.c .n)) (Mem.nil _) ?_
 refine go 3 [0,0] [5,2,1] .n (λg1=>⟨rfl,?_⟩)
 intro a w hs;refine zB (v:=nI (zHL c)) hs (.c rfl .n) call105 (zMT c _) rfl ?_
 refine goL 1 [] [7,2,1] .n ?_
 refine ifG rfl (λc_2=>?_) (λc_2=>?_)
 ·
  refine go 1 [] [4] .n ?_
  refine cl (·.drop (.c .z .n)) ?_
  intro a w hs;exact fin hs rfl rfl ⟨congrArg (Value.int .i64) (zal (by assumption)),rfl⟩
 have hc1:=zH0 (zCt (by assumption))
 refine go 0 [] [2,1] .n ?_
 intro a w hs
 refine zO [.p [] [],.p [0] [0],.p [] [],.p [2] [0],.p [] [],.p [4] [],.v [5,3] (zI (zA1 c.gain (max 0 j))),.v [6,1] (zI (zC0 c.base (zA1 c.gain (max 0 j)))),.p [] [],.p [8] [0],.p [] [],.p [10] [0],.v [11,9,7] (zI (zAI (zC0 c.base (zA1 c.gain (max 0 j))) c.least c.most)),.p [12] []] [13] hs .n (.c .z .n) (by kernel_rfl) ⟨rfl,rfl,λ_ _ _ _ hm hs K=>zB (v:=zI (zA1 c.gain (max 0 j))) hs (.c rfl (.c rfl .n)) call159 (zDJ c.gain (max 0 j) (by omega) (by omega) _) rfl (vk K),λ_ _ _ _ hm hs K=>zB (v:=zI (zC0 c.base (zA1 c.gain (max 0 j)))) hs (.c rfl (.c rfl .n)) call147 (zEr c.base (zA1 c.gain (max 0 j)) (by omega) (zCm _ _) _) rfl (vk K),rfl,rfl,λ_ _ _ _ hm hs K=>zB (v:=zI (zAI (zC0 c.base (zA1 c.gain (max 0 j))) c.least c.most)) hs (.c rfl (.c rfl (.c rfl .n))) call65 (zHu (zC0 c.base (zA1 c.gain (max 0 j))) c.least c.most _) rfl (vk K),⟨rfl,by kernel_rfl,λ_=>rfl,rfl,rfl,trivial⟩,λ_=>rfl,?_⟩
 refine goE 0 [] [4] .n ?_
 refine cl (·.drop (.c .z .n)) ?_
 intro a w hs;exact fin hs rfl rfl ⟨congrArg (Value.int .i64) (zag (by assumption)),rfl⟩
theorem zZk (g:Nat) (c:zAS) (now ch j:Int) (hj : -9223372036854775808≤j∧j≤9223372036854775807) (hc:zHL c=0) (hn:c.least≤now∧now≤c.most) (w0:World) (hg:(blk g [zI c.ring,zI c.window,zI c.base,zI c.gain,zI c.least,zI c.most,zI c.slack,zI c.num,zI c.den,zI c.extra,.bool (c.curve),zI now,zI ch] 195).p w0):Calls Tryz.prog 94 #[pt g 0,.int .i64 j] w0 (Ret w0 [g] λu N=>u=zI (zTS c now j)∧N=[blk g [zI c.ring,zI c.window,zI c.base,zI c.gain,zI c.least,zI c.most,zI c.slack,zI c.num,zI c.den,zI c.extra,.bool (c.curve),zI (zTS c now j),zI (dCh c now j ch)] 195]):=by
 have hc1:=zH0 hc
 have ht:=zKF (j:=j) hc
 refine zG (F0:=[(0,pt g 0),(1,zI j)]) func94 rfl rfl rfl (.c (.c .n)) (zAq hg) ?_
 refine go 9 [0] [12,11,0] (.c .z .n) ⟨rfl,?_⟩
 intro a w hs;refine zB (v:=zI (zIv c j)) hs (.c rfl (.c rfl .n)) call108 (zRK c j (by omega) _) rfl ?_
 refine goL 1 [] [5,0] .n ?_
 intro a w hs
 refine zO [.p [] [],.p [] [],.p [1] [],.p [2] [],.p [3] [0],.p [4,0] [],.p [] [],.p [6] [],.p [7] [],.p [8] [0],.p [] [],.p [10,9] [],.p [11,5] [],.p [] [],.p [13] [],.p [14] [],.p [15] [],.p [16] [0],.p [17,12] []] [18] hs .n (.c .z .n) (by kernel_rfl) ⟨rfl,(by omega),rfl,(by omega),rfl,⟨rfl,by kernel_rfl,λ_=>rfl,rfl,rfl,trivial⟩,λ_=>rfl,?_⟩
 refine goE 0 [] [32,5,0] .n ?_
 refine ifG rfl (λc_2=>?_) (λc_2=>?_)
 ·
  refine go 9 [0,0] [40,37,0] (.c .z .n) ⟨rfl,rfl,?_⟩
  intro a w hs;refine zEZ hs rfl rfl rfl ?_
  refine goL 8 [0,0] [4] (.c .z .n) ⟨rfl,rfl,?_⟩
  have hdn:zTS c now j=zIv c j:=if_pos (by assumption);have hdc2:dCh c now j ch=IntKind.i64.wrap (ch+1):=if_pos (by assumption)
  intro a w hs;exact fin hs rfl rfl ⟨by rw [hdn],by rw [hdn,hdc2]⟩
 refine go 5 [0] [4] (.c .z .n) ⟨rfl,?_⟩
 have hdn:zTS c now j=now:=if_neg (by assumption);have hdc2:dCh c now j ch=ch:=if_neg (by assumption)
 intro a w hs;exact fin hs rfl rfl ⟨by rw [hdn],by rw [hdn,hdc2]⟩
theorem zXT (g:Nat) (c:zAS) (now ch:Int) (w0:World) (hg:(blk g [zI c.ring,zI c.window,zI c.base,zI c.gain,zI c.least,zI c.most,zI c.slack,zI c.num,zI c.den,zI c.extra,.bool (c.curve),zI now,zI ch] 195).p w0):Calls Tryz.prog 83 #[pt g 0] w0 (zAh w0 (.int .i64 now)):=by
 refine zG (F0:=[(0,pt g 0)]) func83 rfl rfl rfl (.c .n) (Mem.nil _) ?_
 refine go 7 [] [7] .n ?_
 intro a w hs;refine zAC hs rfl (hs.mem.keep hg (by simp [zN,blk])) (.s (.s (.s (.s (.s (.s (.s (.s (.s (.s (.s .z))))))))))) isAgg2 rfl ?_
 refine goL 1 [] [2] .n ?_
 intro a w hs;exact fin hs rfl rfl ⟨rfl,rfl⟩
theorem zY3 (c:zAS) (hc:zHL c=0) (w0:World):Calls Tryz.prog 70 #[.agg #[zI c.ring,zI c.window,zI c.base,zI c.gain,zI c.least,zI c.most,zI c.slack,zI c.num,zI c.den,zI c.extra,.bool (c.curve)]] w0 (Ret w0 [] λu N=>∃ r,u = .tuple #[pt r 0,.int .i64 0]∧N=[blk r [zI c.ring,zI c.window,zI c.base,zI c.gain,zI c.least,zI c.most,zI c.slack,zI c.num,zI c.den,zI c.extra,.bool (c.curve),zI (zIv c 0),zI 0] 195]):=by
 refine zG (F0:=[(0,.agg #[zI c.ring,zI c.window,zI c.base,zI c.gain,zI c.least,zI c.most,zI c.slack,zI c.num,zI c.den,zI c.extra,.bool (c.curve)])]) func70 rfl rfl rfl (.c .n) (Mem.nil _) ?_
 refine go 4 [0,0] [5,1] .n (λg1=>⟨rfl,?_⟩)
 intro a w hs;refine zB (v:=nI (zHL c)) hs (.c rfl .n) call105 (zMT c _) rfl ?_
 refine goL 3 [] [8,4,1] .n ?_
 refine ifG rfl (λc_2=>?_) (λc_2=>?_)
 ·
  exfalso;omega
 refine go 0 [] [1] .n ?_
 intro a w hs
 refine zAQ [.p [] [0],.p [] [0],.v [1] (zI (zIv c 0)),.p [2,0] [],.x [3] ⟨[],[],[],λvs3=>vs3 4=pt (zBj (vs3 4)) 0,λvs3=>[blk (zBj (vs3 4)) [zI c.ring,zI c.window,zI c.base,zI c.gain,zI c.least,zI c.most,zI c.slack,zI c.num,zI c.den,zI c.extra,.bool (c.curve),zI (zIv c 0),zI 0] 195],none⟩,.x [] ⟨[],[],[4],λvs3=>vs3 5=pt (zBj (vs3 4)) 0,λvs3=>[],none⟩,.p [] []] [6] hs .n .n (.c .z .n) (by kernel_rfl) ⟨rfl,rfl,λ_ _ _ _ hm hs K=>zB (v:=zI (zIv c 0)) hs (.c rfl (.c rfl .n)) call108 (zRK c 0 (by omega) _) rfl (vk K),⟨.n,by kernel_rfl,λ_=>rfl,rfl,rfl⟩,⟨?_,?_,trivial⟩,?_⟩
 ·
  intro a_ w_ R_ rest_ vs3 hm hs ht hx
  have hs0:=hs.bare
  refine zJG (cs:=[zI c.ring,zI c.window,zI c.base,zI c.gain,zI c.least,zI c.most,zI c.slack,zI c.num,zI c.den,zI c.extra,.bool (c.curve),zI (zIv c 0),zI 0]) hs rfl rfl rfl ?_;clear hs;intro g4 a w hs
  exact wpList_nil ⟨rfl,_,_,hs0,(.c .r),hs,rfl⟩
 ·
  intro a_ w_ R_ rest_ vs3 hm hs ht hx
  have t4:=ht 4 (zJ 7 _ (by kernel_rfl))
  have e4:_=some (vs3 4):=t4.val rfl
  rw [show vs3 4=pt (zBj (vs3 4)) 0 from t4.2.1] at e4
  replace hs:=hs.learn e4
  have hs0:=hs.bare
  refine zEd hs rfl rfl ?_;clear hs;intro a w hs
  exact wpList_nil ⟨rfl,_,_,hs0,(.c .r),hs,rfl⟩
 clear hs w a;intro vs3 a w hs hf
 obtain ⟨e5,q5⟩:=hf 5 (by decide)
 replace e5:_=some (vs3 5):=e5.val rfl
 rw [show vs3 5=pt (zBj (vs3 4)) 0 from q5] at e5
 replace hs:=hs.learn e5;clear e5 q5
 generalize zBj (vs3 4)=g5 at hs
 clear hf
 revert a w hs
 refine goE 0 [] [2,3] .n ?_
 refine cl (·.drop (.c .z .n)) ?_
 intro a w hs;exact zBO hs rfl rfl rfl ⟨_,rfl,rfl⟩
theorem zUo (x y:Int) (hx : -9223372036854775808≤x∧x≤9223372036854775807) (hy : -9223372036854775808≤y∧y≤9223372036854775807) (w0:World):Calls Tryz.prog 139 #[zI x,zI y] w0 (zAh w0 (zI (zEc x y))):=by
 refine zG (F0:=[(0,zI x),(1,zI y)]) func139 rfl rfl rfl (.c (.c .n)) (Mem.nil _) ?_
 refine go 11 [] [12,9] .n ⟨(by omega),?_⟩
 intro a w hs;refine zQl (m:=4) hs rfl rfl (by decide) rfl ?_
 intro a w hs;rw [zUj] at hs
 revert a w hs
 refine goL 2 [] [4] .n ⟨(by omega),?_⟩
 intro a w hs;exact fin hs rfl rfl ⟨rfl,rfl⟩
theorem zZq (w0:World):Calls Tryz.prog 71 #[] w0 (Ret w0 [] λu N=>∃ r,u=pt r 0∧N=[blk r [zI 0,zI 0] 197]):=by
 refine zG (F0:=[]) func71 rfl rfl rfl .n (Mem.nil _) ?_
 refine go 4 [0] [0] .n (λg1=>?_)
 intro a w hs;exact fin hs rfl rfl ⟨_,rfl,rfl⟩
theorem zZO (g:Nat) (j c:Int) (w0:World) (hg:(blk g [zI j,zI c] 197).p w0):Calls Tryz.prog 82 #[pt g 0] w0 (zAh w0 (.int .i64 j)):=by
 refine zG (F0:=[(0,pt g 0)]) func82 rfl rfl rfl (.c .n) (Mem.nil _) ?_
 refine go 7 [] [7] .n ?_
 intro a w hs;refine zAC hs rfl (hs.mem.keep hg (by simp [zN,blk])) .z isAgg2 rfl ?_
 refine goL 1 [] [2] .n ?_
 intro a w hs;exact fin hs rfl rfl ⟨rfl,rfl⟩
theorem zWE (g b:Nat) (j c:Int) (hgb:b≠g) (w0:World) (hb:(blk b [pt g 0] 145).p w0) (hg:(blk g [zI j,zI c] 197).p w0):CallsD Tryz.prog 138 #[pt b 0] .returning w0 λe u' w'=>u' = .returning∧Ret w0 [g] (λu N=>N=[blk g [zI j,zI (IntKind.i64.wrap (c+1))] 197]) e w':=by
 refine zXO (F0:=[(0,pt b 0)]) func138 rfl rfl rfl (.c .n) (zAq hg) ?_
 refine go 0 [] [0] .n ?_
 intro a w hs;refine zAC hs rfl (hs.mem.keep hb (by simpa [zN,blk] using hgb)) .z isAgg145 rfl ?_
 refine goL 3 [0] [4,1] (.c .z .n) ⟨rfl,?_⟩
 intro a w hs;refine zEZ hs rfl rfl rfl ?_
 refine goL 3 [0] [] (.c .z .n) ⟨rfl,?_⟩
 intro a w hs;exact zIo hs rfl rfl
theorem zYH (g:Nat) (j c x:Int) (hj : -9223372036854775808≤j∧j≤9223372036854775807) (hx : -9223372036854775808≤x∧x≤9223372036854775807) (w0:World) (hg:(blk g [zI j,zI c] 197).p w0):Calls Tryz.prog 93 #[pt g 0,.int .i64 x] w0 (Ret w0 [g] λu N=>u = .int .i64 0∧N=[blk g [zI (zEc j x),zI (IntKind.i64.wrap (c+1))] 197]):=by
 refine zbk (F0:=[(0,pt g 0),(1,zI x)]) func93 rfl rfl rfl (.c (.c .n)) (zAq hg) λa w hs=>?_
 refine wp_seq_k λK1 hK2=>?_
 refine wp_region_lit ?_
 refine zJG (cs:=[pt g 0]) hs rfl rfl rfl ?_;clear hs w a;intro g3 a w hs
 refine zEd hs rfl rfl ?_;clear hs w a;intro a w hs
 refine wpList_nil ?_
 refine zAy (hK2 _ _ ?_)
 refine wp_seq_k λK4 hK5=>?_
 refine wp_seq_k λK6 hK7=>?_
 refine wp_region_lit ?_
 refine zKp hs rfl .z .z isAgg145 rfl ?_;clear hs w a;intro a w hs
 refine zKj hs rfl rfl underlying145 rfl ?_;clear hs w a;intro a w hs
 refine wpList_nil ?_
 refine zAy (hK7 _ _ ?_)
 refine wp_cond_false (hs.ev rfl) ?_
 refine wp_skip ?_
 refine zAy (hK5 _ _ ?_)
 refine wp_seq_k λK8 hK9=>?_
 refine wp_region_lit ?_
 refine zZ7 hs .n (.c rfl .n) rfl ?_;clear hs w a;intro a w hs
 refine zV9 hs rfl (wpList_nil ?_)
 refine zAy (hK9 _ _ ?_)
 refine wp_seq_k λK9 hK9=>?_
 
 refine zQE (λ_ _ h=>(by obtain ⟨_,_,h,_⟩:=h;cases h)) [.p [] [0],.p [] [0],.p [1] [],.p [2] [],.l [3] [0] [9] [],.p [] [],.v [5,4] (zI (zEc j x)),.p [0] [],.p [7] [],.s [8,6] [0] [0] []] [] hs (.c (.s .z) .n) (.c .z .n) (by kernel_rfl) ⟨rfl,rfl,rfl,λ_ _ _ _ hm hs K=>zB (v:=zI (zEc j x)) hs (.c rfl (.c rfl .n)) call139 (zUo j x (by omega) (by omega) _) rfl (vk K),rfl,⟨rfl,by kernel_rfl,λ_=>rfl,rfl,rfl,trivial⟩,λ_=>rfl,?_⟩
 intro a w hs;refine zAy (hK9 _ _ ?_)
 refine wp_seq_k λK8 hK8=>?_
 refine wp_region_lit (zOc (λ_ _ h=>(by obtain ⟨_,_,h,_⟩:=h;cases h)) _ _ _ ?_)
 refine zEd hs rfl rfl ?_;clear hs w a;intro a w hs
 refine wpList_nil ?_
 refine zAy (hK8 _ _ ?_)
 refine wp_ret ?_
 refine zSg hs rfl rfl rfl ((zWE g g3 _ _ ?_ _ (hs.mem.del .z) (hs.mem.del (.s .z))).mono ?_)
 ·have hn:=hs.mem.nd;intro he;subst he;simp [zN,blk] at hn
 ·rintro e u' w' ⟨rfl,u,N,rfl,rfl,hM⟩
  have hM2:=hs.mem.frame (X:=[blk g [zI (zEc j x),zI c] 197]) (.c (.s .z) .n) hM
  exact ⟨rfl,⟨_,rfl⟩,_,_,rfl,⟨rfl,rfl⟩,hM2.drop (.c (.s .z) .n)⟩
theorem zWp (x y:Int) (w0:World):Calls Tryz.prog 136 #[zI x,zI y] w0 (zAh w0 (.bool (decide (y<x)))):=by
 refine zG (F0:=[(0,zI x),(1,zI y)]) func136 rfl rfl rfl (.c (.c .n)) (Mem.nil _) ?_
 refine go 5 [] [4] .n ?_
 intro a w hs;exact fin hs rfl rfl ⟨rfl,rfl⟩
theorem zWj (x y:Int) (w0:World):Calls Tryz.prog 137 #[zI x,zI y] w0 (zAh w0 (.bool (decide (x<y)))):=by
 refine zG (F0:=[(0,zI x),(1,zI y)]) func137 rfl rfl rfl (.c (.c .n)) (Mem.nil _) ?_
 refine go 5 [] [4] .n ?_
 intro a w hs;exact fin hs rfl rfl ⟨rfl,rfl⟩
theorem zX0 (c:Int) (h:1≤c∧c≤64) (w0:World):Calls Tryz.prog 68 #[.int .i64 c] w0 (Ret w0 [] λu N=>∃ r,u = .tuple #[pt r 0,.int .i64 0]∧N=[blk r [zI c,.slice none 0 0,.slice none 0 0,.slice none 0 0] 191]):=by
 refine zG (F0:=[(0,zI c)]) func68 rfl rfl rfl (.c .n) (Mem.nil _) ?_
 refine go 5 [] [6,0] .n ?_
 intro a w hs;refine zX (b:=decide (c<1)) (λc_1=>?_) (λc_1=>?_)
 ·
  rw [c_1] at hs
  replace c_1:=of_decide_eq_true c_1
  revert a w hs
  refine go 6 [] [3,2] .n ?_
  exfalso;omega
 rw [c_1] at hs
 replace c_1:=of_decide_eq_false c_1
 revert a w hs
 refine go 3 [] [9,0] .n ?_
 refine ifG rfl (λc_2=>?_) (λc_2=>?_)
 ·
  refine go 2 [] [3,2] .n ?_
  exfalso;omega
 refine go 5 [0] [3,2] .n (λg3=>?_)
 intro a w hs;exact zBO hs rfl rfl rfl ⟨_,rfl,rfl⟩
theorem zSs (l:List Int) (v:Value) (w0:World) (hb:Rd w0 [] v 1 l.length (iV l)):Calls Tryz.prog 122 #[v] w0 (zAh w0 (.tuple #[zI (l.getD 0 0),.bool (decide (0<l.length))])):=by
 refine zG (F0:=[(0,v)]) func122 rfl rfl rfl (.c .n) (Mem.nil _) ?_
 refine go 3 [] [4,2,0] .n ?_
 intro a w hs;refine zAG hs rfl (hs.rd0 hb).isSl underlying71 rfl ?_
 refine goL 1 [] [6,2,0] .n ?_
 refine ifG rfl (λc_1=>?_) (λc_1=>?_)
 ·
  refine go 3 [] [3,2] .n ?_
  intro a w hs;exact zBO hs rfl rfl rfl ⟨zRw (by assumption),rfl⟩
 refine go 1 [] [8] .n ?_
 intro a w hs;refine zA9 (j:=0) hs rfl rfl (hs.rd0 hb) (by decide) (by omega) underlying71 sizeOf2 rfl ?_
 intro a w hs;refine zBf (u:=zI (l.getD 0 0)) hs rfl (hs.rd0 hb) (zJX l 0 (by omega)) isAgg2 rfl ?_
 refine goL 2 [] [3,2] .n ?_
 intro a w hs;exact zBO hs rfl rfl rfl ⟨zPk (by assumption),rfl⟩
theorem zLV (g:Nat) (c:Int) (v1 v2 v3:Value) (l:List Int) (w0:World) (hg:(blk g [zI c,v1,v2,v3] 191).p w0) (hb:Rd w0 [] v2 1 l.length (iV l)):Calls Tryz.prog 81 #[pt g 0] w0 (zAh w0 (.tuple #[zI (l.getD 0 0),.bool (decide (0<l.length))])):=by
 refine zG (F0:=[(0,pt g 0)]) func81 rfl rfl rfl (.c .n) (Mem.nil _) ?_
 refine go 8 [] [9] .n ?_
 intro a w hs;refine zAC hs rfl (hs.mem.keep hg (by simp [zN,blk])) (.s (.s .z)) isAgg71 rfl ?_
 intro a w hs;refine zB (v:=.tuple #[zI (l.getD 0 0),.bool (decide (0<l.length))]) hs (.c rfl .n) call122 (zSs _ _ _ (hs.rd0 hb)) rfl ?_
 refine goL 4 [] [3,2] .n ?_
 intro a w hs;exact zBO hs rfl rfl rfl ⟨rfl,rfl⟩
theorem zOH (l:List Int) (v:Value) (x:Int) (hl:0<l.length) (w0:World) (hb:Rd w0 [] v 1 l.length (iV l)):Calls Tryz.prog 134 #[v,.int .i64 x] w0 (zAh w0 (zDI v l x)):=by
 refine zG (F0:=[(0,v),(1,zI x)]) func134 rfl rfl rfl (.c (.c .n)) (Mem.nil _) ?_
 refine go 2 [] [5,0,1] .n ?_
 intro a w hs;refine zA9 (j:=0) hs rfl rfl (hs.rd0 hb) (by decide) (by omega) underlying71 sizeOf2 rfl ?_
 intro a w hs;refine zBf (u:=zI (l.getD 0 0)) hs rfl (hs.rd0 hb) (zJX l 0 (by omega)) isAgg2 rfl ?_
 refine goL 2 [] [9,0] .n ?_
 refine ifG rfl (λc_1=>?_) (λc_1=>?_)
 ·
  refine go 1 [] [10] .n ?_
  intro a w hs;refine zH1 (j:=1) hs rfl rfl (by decide) (hs.rd0 hb).isSl (by omega) underlying71 sizeOf2 rfl ?_
  refine goL 1 [] [4] .n ?_
  intro a w hs;exact fin hs rfl rfl ⟨zUA (by assumption),rfl⟩
 refine go 2 [] [4] .n ?_
 intro a w hs;exact fin hs rfl rfl ⟨zT3 (by assumption),rfl⟩
theorem zHZ (f:FuncId) (F:Int→Int→Bool) (hcl:∀ args w,(callFunc f args).run Tryz.prog w = .ok (.enter f args) w) (hf:∀ p q w0,Calls Tryz.prog f #[.int .i64 p,.int .i64 q] w0 (zAh w0 (.bool (F p q)))) (l:List Int) (v:Value) (x:Int) (hl:l.length≤64) (w0:World) (hr:(rwo v 2 (iV l)).p w0):Calls Tryz.prog 135 #[v,.int .i64 x,.func (.func f) #[] #[]] w0 (Ret w0 (zN [rwo v 2 (iV l)]) λu N=>N=[rwo u 2 (iV (zDz F l x))]):=by
 refine zG (F0:=[(0,v),(1,zI x),(2,.func (.func f) #[] #[])]) func135 rfl rfl rfl (.c (.c (.c .n))) (zXw hr) ?_
 refine go 1 [] [0,1,2] .n ?_
 refine cl (·.rerwo .z (show iV l=iV (l.take l.length) by rw [List.take_length])) ?_
 intro a w hs;refine zCC (λmm_ a w=>∃ k:Nat,∃ r:Value,mm_=1+k∧St 30 [(0,r),(1,zI x),(2,.func (.func f) #[] #[])] w0 (zN [rwo v 2 (iV l)]) [rwo r 2 (iV (l.take k))] a w∧k≤l.length∧zJx F l x k=zJx F l x l.length) ⟨l.length,v,rfl,hs.sub (.c rfl (.c rfl (.c rfl .n))),by omega,rfl⟩ ?_
 clear hs w a;rintro mm_ a w ⟨k,r,rfl,hs,hI1_0,hI1_1⟩
 revert a w hs
 refine go 1 [] [7,0,1,2] .n ?_
 intro a w hs;refine zAG hs rfl (zA4 (hs.mem.del .z) (List.length_take_of_le (by omega))).isSl underlying71 rfl ?_
 refine goL 2 [] [10,0,1,2] .n ?_
 intro a w hs;refine zX (b:=decide (0<(k:Int))) (λc_1=>?_) (λc_1=>?_)
 ·
  rw [c_1] at hs
  replace c_1:=of_decide_eq_true c_1
  revert a w hs
  refine go 3 [] [13,12,11,10,0,1,2] .n ?_
  intro a w hs;refine zC hs rfl rfl rfl ?_
  refine zAG hs rfl (zA4 (hs.mem.del .z) (List.length_take_of_le (by omega))).isSl underlying71 rfl ?_
  refine goL 1 [] [15,12,11,10,0,1,2] .n ⟨(by omega),?_⟩
  have hv_:((k:Int)-1:Int)=(((k-1:Nat):Int):Int):=by omega
  intro a w hs;rw [hv_] at hs;clear hv_
  refine zC hs rfl rfl rfl ?_
  refine zA9 (j:=(k-1)) hs rfl rfl (zA4 (hs.mem.del .z) (List.length_take_of_le (by omega))) rfl (by omega) underlying71 sizeOf2 rfl ?_
  intro a w hs;refine zC hs rfl rfl rfl ?_
  refine zBf (u:=zI (l.getD (k-1) 0)) hs rfl (zA4 (hs.mem.del .z) (List.length_take_of_le (by omega))) (zXE l k (k-1) (by omega) (by omega)) isAgg2 rfl ?_
  refine goL 1 [] [18,17,11,10,0,1,2] .n ?_
  intro a w hs;refine zC hs rfl rfl rfl ?_
  refine zAr (us:=[]) (v:=.bool (F (l.getD (k-1) 0) x)) hs rfl (.c rfl (.c rfl .n)) rfl hcl (hf _ _ _) rfl ?_
  refine goL 1 [] [20,0,1,2] .n ?_
  refine zZA rfl (λc_2=>?_) (λc_2=>?_)
  ·
   refine go 2 [] [22,21,1,2] .n ?_
   intro a w hs;refine zAG hs rfl (zA4 (hs.mem.del .z) (List.length_take_of_le (by omega))).isSl underlying71 rfl ?_
   refine goL 1 [] [24,21,1,2] .n ⟨(by omega),?_⟩
   have hv_:((k:Int)-1:Int)=(((k-1:Nat):Int):Int):=by omega
   intro a w hs;rw [hv_] at hs;clear hv_
   refine zMw (j:=(k-1)) hs rfl rfl rfl (zA4 (hs.mem.del .z) (List.length_take_of_le (by omega))) (by omega) underlying71 sizeOf2 rfl ?_
   refine goL 1 [] [0,1,2] .n ?_
   refine cl (·.rwoPop .z (by omega) (by omega)) ?_
   intro a w hs;refine ⟨_,?_,(k-1),(zFt r 1 0 (k-1)),rfl,hs.sub (.c rfl (.c rfl (.c rfl .n))),by omega,zRp hI1_1 (by omega) (by assumption)⟩
   omega
  refine go 3 [] [28,26] .n (λg3=>?_)
  intro a w hs;refine zKY (u:=zI x) (bytes:=8) hs rfl rfl (.s .z) (zAJ (m:=1) (size:=1) (hs.mem.del .z) rfl (by decide)) rfl underlying71 (i:=Tryz.t2) rfl rfl rfl rfl rfl (by rw [zEX,List.length_take_of_le (by omega)];omega) (by rw [zEX,List.length_take_of_le (by omega)];simp only [maxLen];omega) rfl ?_;intro v4
  refine cl (·.rerwo .z (zJg _ _)) ?_
  refine cl (·.drop (.c (.s .z) .n)) ?_
  refine goL 1 [] [6] .n ?_
  have hk:=zJc hI1_1 (by first | (left;omega) | (right;assumption))
  refine cl (·.rerwo (xs':=iV (zDz F l x)) .z (by rw [zDz,← hk])) ?_
  intro a w hs;exact fin hs rfl rfl rfl
 rw [c_1] at hs
 replace c_1:=of_decide_eq_false c_1
 revert a w hs
 refine go 14 [] [28,26] .n (λg5=>?_)
 intro a w hs;refine zKY (u:=zI x) (bytes:=8) hs rfl rfl (.s .z) (zAJ (m:=1) (size:=1) (hs.mem.del .z) rfl (by decide)) rfl underlying71 (i:=Tryz.t2) rfl rfl rfl rfl rfl (by rw [zEX,List.length_take_of_le (by omega)];omega) (by rw [zEX,List.length_take_of_le (by omega)];simp only [maxLen];omega) rfl ?_;intro v6
 refine cl (·.rerwo .z (zJg _ _)) ?_
 refine cl (·.drop (.c (.s .z) .n)) ?_
 refine goL 1 [] [6] .n ?_
 have hk:=zJc hI1_1 (by first | (left;omega) | (right;assumption))
 refine cl (·.rerwo (xs':=iV (zDz F l x)) .z (by rw [zDz,← hk])) ?_
 intro a w hs;exact fin hs rfl rfl rfl
theorem zYZ (g:Nat) (c x:Int) (v1 v2 v3:Value) (l1 l2 l3:List Int) (hc:1≤c∧c≤64) (h1:(l1.length:Int)≤c) (h2:l2.length≤l1.length) (h3:l3.length≤l1.length) (h0:0<l1.length→0<l2.length∧0<l3.length) (w0:World) (hM:∀ h∈([blk g [zI c,v1,v2,v3] 191,rwo v1 2 (iV l1),rwo v2 2 (iV l2),rwo v3 2 (iV l3)]:List HA),h.p w0) (hnd:(zN [blk g [zI c,v1,v2,v3] 191,rwo v1 2 (iV l1),rwo v2 2 (iV l2),rwo v3 2 (iV l3)]).Nodup):Calls Tryz.prog 92 #[pt g 0,.int .i64 x] w0 (Ret w0 (zN [blk g [zI c,v1,v2,v3] 191,rwo v1 2 (iV l1),rwo v2 2 (iV l2),rwo v3 2 (iV l3)]) λu N=>u = .int .i64 0∧∃ u1 u2 u3,N=[blk g [zI c,u1,u2,u3] 191,rwo u1 2 (iV (zVP c l1 x)),rwo u2 2 (iV (zDz (λp q=>decide (q<p)) (wD c l1 l2) x)),rwo u3 2 (iV (zDz (λp q=>decide (p<q)) (wD c l1 l3) x))]):=by
 have hv2:=(zA4 (hM (rwo v2 2 (iV l2)) (by simp)) rfl).isSl
 have hv3:=(zA4 (hM (rwo v3 2 (iV l3)) (by simp)) rfl).isSl
 refine zG (F0:=[(0,pt g 0),(1,zI x)]) func92 rfl rfl rfl (.c (.c .n)) (Mem.start hM rfl hnd) ?_
 refine go 4 [] [0,1] .n ?_
 intro a w hs
 refine zO [.p [] [],.p [0] [],.p [1] [],.p [2] [0],.v [3] (nI l1.length),.p [] [],.p [5] [],.p [6] [],.p [7] [0],.p [8,4] []] [9] hs .n (.c .z .n) (by kernel_rfl) ⟨rfl,λ_ _ _ _ hm hs K=>zAG hs rfl (zA4 (hm.del (.s .z)) rfl).isSl underlying71 rfl (vk K),rfl,⟨rfl,by kernel_rfl,λ_=>rfl,rfl,rfl,trivial⟩,λ_=>rfl,?_⟩
 refine goE 0 [] [16,0,1] .n ?_
 refine ifG rfl (λc_2=>?_) (λc_2=>?_)
 ·
  have h00:=h0 (by omega)
  refine go 0 [] [0,1] .n ?_
  intro a w hs
  refine zO (dcs [.p [] [],.p [] [],.p [] [],.p [2] [],.p [3] [],.l [4] [0] [26] [],.p [] [],.p [6] [],.p [7] [],.l [8] [0] [26] [],.v [9] (.pointer (some (adr v1 0))),.v [10] (zI (l1.getD 0 0)),.v [11,5] (zDI v2 l2 (l1.getD 0 0)),.p [] [],.p [13] [],.p [14] [],.l [15] [0] [26] [],.p [] [],.p [17] [],.p [18] [],.l [19] [0] [26] [],.v [20] (.pointer (some (adr v1 0))),.v [21] (zI (l1.getD 0 0)),.v [22,16] (zDI v3 l3 (l1.getD 0 0)),.p [0] [],.p [24] [],.s [25,12] [50] [0] [],.p [1] []] [.p [27] [],.s [28,23] [50] [] [26]]) [] hs (.c .z .n) .n (by kernel_rfl) ⟨rfl,rfl,λ_ _ _ _ hm hs K=>zA9 (j:=0) hs rfl rfl (zA4 (hm.del .z) rfl) (by decide) (by omega) underlying71 sizeOf2 rfl (vk K),λ_ _ _ _ hm hs K=>zBf (u:=zI (l1.getD 0 0)) hs rfl (zA4 (hm.del .z) rfl) (zJX l1 0 (by omega)) isAgg2 rfl (vk K),λ_ _ _ _ hm hs K=>zB (v:=zDI v2 l2 (l1.getD 0 0)) hs (.c rfl (.c rfl .n)) call134 (zOH _ v2 (l1.getD 0 0) (by omega) _ (zA4 (hm.del (.s .z)) rfl)) rfl (vk K),rfl,rfl,λ_ _ _ _ hm hs K=>zA9 (j:=0) hs rfl rfl (zA4 (hm.del .z) rfl) (by decide) (by omega) underlying71 sizeOf2 rfl (vk K),λ_ _ _ _ hm hs K=>zBf (u:=zI (l1.getD 0 0)) hs rfl (zA4 (hm.del .z) rfl) (zJX l1 0 (by omega)) isAgg2 rfl (vk K),λ_ _ _ _ hm hs K=>zB (v:=zDI v3 l3 (l1.getD 0 0)) hs (.c rfl (.c rfl .n)) call134 (zOH _ v3 (l1.getD 0 0) (by omega) _ (zA4 (hm.del (.s (.s .z))) rfl)) rfl (vk K),rfl,(zF (Exists.choose_spec (zLD l2 (l1.getD 0 0) hv2)).one zAX),rfl,(zF (Exists.choose_spec (zLD l3 (l1.getD 0 0) hv3)).one zAX),⟨rfl,by kernel_rfl,λ_=>rfl,rfl,rfl,trivial⟩,λ_=>rfl,?_⟩
  refine goE 1 [] [45,0,1] .n ?_
  refine cl (·.rwoDrop (.s .z) (l1.getD 0 0) (by omega)) ?_
  refine cl (·.rwoDrop (.s (.s .z)) (l1.getD 0 0) (by omega)) ?_
  refine go 4 [0] [49,45,0,1] (.c (.s (.s (.s .z))) .n) ⟨rfl,?_⟩
  intro a w hs;refine zH1 (j:=1) hs rfl rfl (by decide) (zA4 (hs.mem.del (.s (.s (.s .z)))) rfl).isSl (by omega) underlying71 sizeOf2 rfl ?_
  refine goL 2 [] [52,50,0,1] .n ?_
  intro a w hs;refine zBh hs rfl rfl .z (.s .z) ((zA4 (hs.mem.del (.s (.s (.s .z)))) rfl).slc (l:=1) (h:=l1.length) (by omega) (by omega)).isSl.one sizeOf71 ?_
  refine goL 1 [] [53,0,1] .n ?_
  refine cl (·.rwoTl (.s (.s (.s .z))) (by omega)) ?_
  have hd1:(l1.drop 1).length=l1.length-1:=by simp
  have hd2:=zMB l2 (l1.getD 0 0);have hd3:=zMB l3 (l1.getD 0 0)
  refine go 6 [0] [59,57,53,0,1] (.c (.s .z) .n) ⟨rfl,λg4=>?_⟩
  intro a w hs;refine zKY (u:=zI x) (bytes:=8) hs rfl rfl (.s (.s .z)) (zAJ (m:=1) (size:=1) (hs.mem.del .z) rfl (by decide)) rfl underlying71 (i:=Tryz.t2) rfl rfl rfl rfl rfl (by simp only [zEX];omega) (by simp only [zEX,maxLen];omega) rfl ?_;intro v5
  refine cl (·.rerwo .z (zJg _ _)) ?_
  refine cl (·.drop (.c (.s .z) .n)) ?_
  refine goL 2 [] [62,60,0,1] .n ?_
  intro a w hs;refine zBh hs rfl rfl (.s .z) (.s .z) (zA4 (hs.mem.del .z) rfl).isSl.one sizeOf71 ?_
  refine goL 6 [0] [68,67,63,0,1] (.c .z .n) ⟨rfl,?_⟩
  intro a w hs;refine zL hs (.c rfl (.c rfl (.c rfl .n))) call135 (.c (.s (.s (.s .z))) .n) (zHZ 136 (λp q=>decide (q<p)) call136 (λp q w=>zWp p q w) (zJr l2 (l1.getD 0 0)) (zDI v2 l2 (l1.getD 0 0)) x (by omega) _ (hs.mem.del (.s (.s (.s .z))))) rfl ?_;clear hs w a;rintro v6 _ a w rfl hs
  revert a w hs
  refine goL 2 [] [71,69,0,1] .n ?_
  intro a w hs;refine zBh hs rfl rfl (.s .z) (.s (.s .z)) (zA4 (hs.mem.del .z) rfl).isSl.one sizeOf71 ?_
  refine goL 6 [0] [77,76,72] (.c .z .n) ⟨rfl,?_⟩
  intro a w hs;refine zL hs (.c rfl (.c rfl (.c rfl .n))) call135 (.c (.s (.s (.s .z))) .n) (zHZ 137 (λp q=>decide (p<q)) call137 (λp q w=>zWj p q w) (zJr l3 (l1.getD 0 0)) (zDI v3 l3 (l1.getD 0 0)) x (by omega) _ (hs.mem.del (.s (.s (.s .z))))) rfl ?_;clear hs w a;rintro v7 _ a w rfl hs
  revert a w hs
  refine goL 2 [] [80,78] .n ?_
  intro a w hs;refine zBh hs rfl rfl (.s .z) (.s (.s (.s .z))) (zA4 (hs.mem.del .z) rfl).isSl.one sizeOf71 ?_
  refine goL 1 [] [4] .n ?_
  refine cl (·.reorder (.c .z (.c (.s (.s .z)) (.c (.s .z) (.c .z .n))))) ?_
  intro a w hs;exact fin hs rfl rfl ⟨rfl,v5,v6,v7,by have hq:=(by assumption:((l1.length:Nat):Int)=c);simp only [zVP,wD,if_pos hq]⟩
 refine go 1 [] [53,0,1] .n ?_
 refine go 6 [0] [59,57,53,0,1] (.c .z .n) ⟨rfl,λg8=>?_⟩
 intro a w hs;refine zKY (u:=zI x) (bytes:=8) hs rfl rfl (.s (.s .z)) (zAJ (m:=1) (size:=1) (hs.mem.del .z) rfl (by decide)) rfl underlying71 (i:=Tryz.t2) rfl rfl rfl rfl rfl (by simp only [zEX];omega) (by simp only [zEX,maxLen];omega) rfl ?_;intro v9
 refine cl (·.rerwo .z (zJg _ _)) ?_
 refine cl (·.drop (.c (.s .z) .n)) ?_
 refine goL 2 [] [62,60,0,1] .n ?_
 intro a w hs;refine zBh hs rfl rfl (.s .z) (.s .z) (zA4 (hs.mem.del .z) rfl).isSl.one sizeOf71 ?_
 refine goL 6 [0] [68,67,63,0,1] (.c .z .n) ⟨rfl,?_⟩
 intro a w hs;refine zL hs (.c rfl (.c rfl (.c rfl .n))) call135 (.c (.s (.s .z)) .n) (zHZ 136 (λp q=>decide (q<p)) call136 (λp q w=>zWp p q w) l2 v2 x (by omega) _ (hs.mem.del (.s (.s .z)))) rfl ?_;clear hs w a;rintro v10 _ a w rfl hs
 revert a w hs
 refine goL 2 [] [71,69,0,1] .n ?_
 intro a w hs;refine zBh hs rfl rfl (.s .z) (.s (.s .z)) (zA4 (hs.mem.del .z) rfl).isSl.one sizeOf71 ?_
 refine goL 6 [0] [77,76,72] (.c .z .n) ⟨rfl,?_⟩
 intro a w hs;refine zL hs (.c rfl (.c rfl (.c rfl .n))) call135 (.c (.s (.s (.s .z))) .n) (zHZ 137 (λp q=>decide (p<q)) call137 (λp q w=>zWj p q w) l3 v3 x (by omega) _ (hs.mem.del (.s (.s (.s .z))))) rfl ?_;clear hs w a;rintro v11 _ a w rfl hs
 revert a w hs
 refine goL 2 [] [80,78] .n ?_
 intro a w hs;refine zBh hs rfl rfl (.s .z) (.s (.s (.s .z))) (zA4 (hs.mem.del .z) rfl).isSl.one sizeOf71 ?_
 refine goL 1 [] [4] .n ?_
 refine cl (·.reorder (.c .z (.c (.s (.s .z)) (.c (.s .z) (.c .z .n))))) ?_
 intro a w hs;exact fin hs rfl rfl ⟨rfl,v9,v10,v11,by have hq:=(by assumption:((l1.length:Nat):Int)≠c);simp only [zVP,wD,if_neg hq]⟩
end Go.Proofs.YtljpfgacpofkpaaGreat
