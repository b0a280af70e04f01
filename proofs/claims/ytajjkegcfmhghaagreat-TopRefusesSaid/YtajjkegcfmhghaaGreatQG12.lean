import Derived.Test.YtajjkegcfmhghaaGreatQG7
import Derived.Test.YtajjkegcfmhghaaGreatQG10
import Derived.Test.YtajjkegcfmhghaaGreatQSxBasB
import Derived.Test.YtajjkegcfmhghaaGreatQG9
import Derived.Test.YtajjkegcfmhghaaGreatQG8
import Derived.Shelf.SlSortCmp.WholeK
import Derived.Shelf.SlicesG.Cmp
import Derived.Test.YtajjkegcfmhghaaGreatProg
set_option linter.unusedVariables false
set_option linter.unusedSimpArgs false
namespace Go.Proofs.YtajjkegcfmhghaaGreat
open Tryz
open Go Go.Sx Go.RowKit
set_option maxRecDepth 4000
set_option maxHeartbeats 1000000
theorem zO9 (x y:Int) (w0:World):Calls Tryz.prog 113 #[zI x,zI y] w0 (zAf w0 (nI (zH7 x y))):=by
 refine zG (F0:=[(0,zI x),(1,zI y)]) func113 rfl rfl rfl (.c (.c .n)) (Mem.nil _) ?_
 refine go 6 [] [9,0,1] .n ?_
 intro a w hs;refine zY (b:=decide ((min x y)<1)) (λc_1=>?_) (λc_1=>?_)
 ·
  rw [c_1] at hs
  replace c_1:=of_decide_eq_true c_1
  revert a w hs
  refine go 7 [] [4] .n ?_
  intro a w hs;exact fin hs rfl rfl ⟨congrArg (λn:Nat=>Value.int .i64 (n:Int)) (zXX (by omega)).symm,rfl⟩
 rw [c_1] at hs
 replace c_1:=of_decide_eq_false c_1
 revert a w hs
 refine go 5 [] [14] .n ?_
 refine ifG rfl (λc_2=>?_) (λc_2=>?_)
 ·
  refine go 1 [] [4] .n ?_
  intro a w hs;exact fin hs rfl rfl ⟨congrArg (λn:Nat=>Value.int .i64 (n:Int)) (zXX (by omega)).symm,rfl⟩
 refine go 1 [] [4] .n ?_
 intro a w hs;exact fin hs rfl rfl ⟨congrArg (λn:Nat=>Value.int .i64 (n:Int)) (zca (by assumption) (by assumption)).symm,rfl⟩
theorem zPF (x n d:Int) (hx : -9223372036854775808≤x∧x≤9223372036854775807) (w0:World):Calls Tryz.prog 112 #[zI x,zI n,zI d] w0 (zAf w0 (.tuple #[zI (bif zH7 n d==0 then zEZ x n d else 0),nI (zH7 n d)])):=by
 refine zG (F0:=[(0,zI x),(1,zI n),(2,zI d)]) func112 rfl rfl rfl (.c (.c (.c .n))) (Mem.nil _) ?_
 refine go 4 [] [14,13,0,1,2] .n ?_
 intro a w hs;refine zB (v:=nI (zH7 n d)) hs (.c rfl (.c rfl .n)) call113 (zO9 n d _) rfl ?_
 refine goL 3 [] [17,8,0,1,2] .n ?_
 refine ifG rfl (λc_1=>?_) (λc_1=>?_)
 ·
  have hbad:=zIs (by assumption)
  refine go 3 [] [7,6] .n ?_
  intro a w hs;exact zBR hs rfl rfl rfl ⟨zZb hbad _,rfl⟩
 have hc0:=zC9 (by assumption)
 have hc1:=zLU hc0
 refine go 2 [] [21,1,2] .n ?_
 intro a w hs;refine zAY hs rfl underlying2 underlying167 rfl ?_
 refine goL 1 [] [23,22,2] .n ?_
 intro a w hs;refine zAY hs rfl underlying2 underlying167 rfl ?_
 intro a w hs;refine zB (v:=.tuple #[qI (mHi (BitVec.ofInt 64 (max 0 x)) (BitVec.ofInt 64 n)),qI ((BitVec.ofInt 64 (max 0 x))*(BitVec.ofInt 64 n))]) hs (.c rfl (.c rfl .n)) call157 (zK5 (BitVec.ofInt 64 (max 0 x)) (BitVec.ofInt 64 n) _) rfl ?_
 refine goL 7 [] [29,28,10,9,2] .n ?_
 intro a w hs;refine zAY hs rfl underlying2 underlying167 rfl ?_
 refine goL 1 [] [31,10,9,2] .n ?_
 refine ifG rfl (λc_2=>?_) (λc_2=>?_)
 ·
  refine go 2 [] [7,6] .n ?_
  intro a w hs;exact zBR hs rfl rfl rfl ⟨zOa hc0 (zWX (by omega) hc0 (by assumption)),rfl⟩
 refine go 3 [] [35,34,33] .n ?_
 intro a w hs;refine zAY hs rfl underlying2 underlying167 rfl ?_
 intro a w hs;refine zB (v:=.tuple #[qI (dQ (mHi (BitVec.ofInt 64 (max 0 x)) (BitVec.ofInt 64 n)) ((BitVec.ofInt 64 (max 0 x))*(BitVec.ofInt 64 n)) (BitVec.ofInt 64 d)),qI (dR (mHi (BitVec.ofInt 64 (max 0 x)) (BitVec.ofInt 64 n)) ((BitVec.ofInt 64 (max 0 x))*(BitVec.ofInt 64 n)) (BitVec.ofInt 64 d))]) hs (.c rfl (.c rfl (.c rfl .n))) call158 (zPN (mHi (BitVec.ofInt 64 (max 0 x)) (BitVec.ofInt 64 n)) ((BitVec.ofInt 64 (max 0 x))*(BitVec.ofInt 64 n)) (BitVec.ofInt 64 d) (by omega) _) rfl ?_
 refine goL 6 [] [40] .n ?_
 intro a w hs;refine zZu hs rfl rfl rfl ?_
 intro a w hs;rw [zNy] at hs;have hmu:=zO2 (dQ (mHi (BitVec.ofInt 64 (max 0 x)) (BitVec.ofInt 64 n)) ((BitVec.ofInt 64 (max 0 x))*(BitVec.ofInt 64 n)) (BitVec.ofInt 64 d))
 refine zAL (X:=zb2 (dQ (mHi (BitVec.ofInt 64 (max 0 x)) (BitVec.ofInt 64 n)) ((BitVec.ofInt 64 (max 0 x))*(BitVec.ofInt 64 n)) (BitVec.ofInt 64 d))) hs rfl rfl underlying167 underlying2 rfl ?_
 refine goL 3 [] [7,6] .n ⟨(by omega),?_⟩
 intro a w hs;exact zBR hs rfl rfl rfl ⟨zOa hc0 (zYS (by omega) hc0 (by assumption)),rfl⟩
theorem zRO (x n d:Int) (hx : -9223372036854775808≤x∧x≤9223372036854775807) (hc:zH7 n d=0) (w0:World):Calls Tryz.prog 112 #[zI x,zI n,zI d] w0 (zAf w0 (.tuple #[zI (zEZ x n d),zI 0])):=by
 have h:=zPF x n d hx w0
 rw [hc] at h
 exact h
theorem zbp (g:Nat) (n d s t b k x:Int) (hs : -9223372036854775808≤s∧s≤9223372036854775807) (ht : -9223372036854775808≤t∧t≤9223372036854775807) (hk : -9223372036854775808≤k∧k≤9223372036854775807) (hx : -9223372036854775808≤x∧x≤9223372036854775807) (hc:zH7 n d=0) (w0:World) (hg:(blk g [zI n,zI d,zI s,zI t,zI b] 207).p w0):Calls Tryz.prog 80 #[pt g 0,.int .i64 k,.int .i64 x] w0 (Ret w0 [g] λu N=>u = .tuple #[zI (sS n d s t b k x),zI 0]∧N=[blk g [zI n,zI d,zI (sS n d s t b k x),zI (sT t b k),zI 1] 207]):=by
 refine zG (F0:=[(0,pt g 0),(1,zI k),(2,zI x)]) func80 rfl rfl rfl (.c (.c (.c .n))) (zAq hg) ?_
 refine goF 32 10 [0] [14,0,1,2] (.c .z .n) ⟨rfl,?_⟩
 intro a w hs;refine zaz (λa w=>∃ p:Int,∃ q:Int,St 80 [(0,pt g 0),(1,zI k),(2,zI x)] w0 [g] [blk g [zI n,zI d,zI p,zI q,zI b] 207] a w∧p=sP b x s∧q=sP b k t) ?_ ?_
 ·
  revert a w hs
  refine go 2 [] [15,0,1,2] .n ?_
  refine ifG rfl (λc_1=>?_) (λc_1=>?_)
  ·
   refine go 10 [0,0] [0,1,2] (.c .z .n) ⟨rfl,rfl,?_⟩
   intro a w hs;exact ⟨x,k,hs.sub (.c rfl (.c rfl (.c rfl .n))),by unfold sP;first | (rw [if_pos (by assumption)]) | (rw [if_neg (by assumption)]),by unfold sP;first | (rw [if_pos (by assumption)]) | (rw [if_neg (by assumption)])⟩
  refine go 0 [] [0,1,2] .n ?_
  intro a w hs;exact ⟨s,t,hs.sub (.c rfl (.c rfl (.c rfl .n))),by unfold sP;first | (rw [if_pos (by assumption)]) | (rw [if_neg (by assumption)]),by unfold sP;first | (rw [if_pos (by assumption)]) | (rw [if_neg (by assumption)])⟩
 clear hs w a;rintro a w ⟨p,q,hs,hJ2,hJ3⟩
 have hp1:=hJ2;have hq1:=hJ3;have hpr:(-9223372036854775808≤p∧p≤9223372036854775807)∧(-9223372036854775808≤q∧q≤9223372036854775807):=by unfold sP at hp1 hq1;split at hp1<;>omega
 revert a w hs
 refine go 0 [] [0,1,2] .n ?_
 intro a w hs
 refine zR [.p [] [],.p [] [],.p [1] [],.p [2] [],.p [3] [0],.p [4,0] [],.p [] [],.p [6] [],.p [7] [],.p [8] [0],.v [9,5] (zI (zBZ (max k q) q)),.p [] [],.p [11] [],.p [12] [],.p [13] [0],.p [] [],.p [15] [],.p [16] [],.p [17] [0],.v [18,14,10] (.tuple #[zI (zEZ (zBZ (max k q) q) n d),zI 0]),.p [19] [],.p [20] [],.p [20] [],.p [21] []] [23] hs .n (.c .z .n) (by kernel_rfl) ⟨rfl,rfl,λ_ _ _ _ hm hs K=>zB (v:=zI (zBZ (max k q) q)) hs (.c rfl (.c rfl .n)) call65 (zGN (max k q) q (by omega) (by omega) _) rfl (vk K),rfl,rfl,λ_ _ _ _ hm hs K=>zB (v:=.tuple #[zI (zEZ (zBZ (max k q) q) n d),zI 0]) hs (.c rfl (.c rfl (.c rfl .n))) call112 (zRO (zBZ (max k q) q) n d (zCG _ _) hc _) rfl (vk K),⟨rfl,by kernel_rfl,λ_=>rfl,rfl,rfl,trivial⟩,λ_=>rfl,?_⟩
 refine goE 14 [0,0,0] [8,0,2] (.c .z .n) ⟨rfl,rfl,rfl,?_⟩
 intro a w hs
 refine zR [.p [] [],.p [] [],.p [1] [],.p [2] [],.l [3] [0] [16] [],.p [] [],.p [] [],.p [6] [],.p [7] [],.l [8] [0] [16] [],.p [] [],.v [10,9] (zI (zDD p (zEZ (zBZ (max k q) q) n d))),.p [11,5] [],.p [12,4] [],.p [0] [],.p [14] [],.s [15,13] [0] [0] []] [] hs (.c .z .n) .n (by kernel_rfl) ⟨rfl,rfl,λ_ _ _ _ hm hs K=>zB (v:=zI (zDD p (zEZ (zBZ (max k q) q) n d))) hs (.c rfl (.c rfl .n)) call118 (zFQ p (zEZ (zBZ (max k q) q) n d) (by omega) (zY1 hc) _) rfl (vk K),rfl,⟨rfl,by kernel_rfl,λ_=>rfl,rfl,rfl,trivial⟩,λ_=>rfl,?_⟩
 refine goE 6 [0] [7,6] (.c .z .n) ⟨rfl,?_⟩
 intro a w hs;exact zBR hs rfl rfl rfl ⟨by rw [hp1,hq1];rfl,by rw [hp1,hq1];rfl⟩
theorem zUw (n d:Int) (hc:zH7 n d=0) (w0:World):Calls Tryz.prog 74 #[.int .i64 n,.int .i64 d] w0 (Ret w0 [] λu N=>∃ r,u = .tuple #[pt r 0,.int .i64 0]∧N=[blk r [zI n,zI d,zI 0,zI 0,zI 0] 207]):=by
 refine zG (F0:=[(0,zI n),(1,zI d)]) func74 rfl rfl rfl (.c (.c .n)) (Mem.nil _) ?_
 refine go 4 [] [8,7,0,1] .n ?_
 intro a w hs;refine zB (v:=nI (zH7 n d)) hs (.c rfl (.c rfl .n)) call113 (zO9 n d _) rfl ?_
 refine goL 3 [] [11,6,0,1] .n ?_
 refine ifG rfl (λc_1=>?_) (λc_1=>?_)
 ·
  exfalso;omega
 refine go 6 [0] [5,4] .n (λg2=>?_)
 intro a w hs;exact zBR hs rfl rfl rfl ⟨_,rfl,rfl⟩
theorem zaU (c:zAG) (w0:World):Calls Tryz.prog 156 #[.agg #[zI c.ring,zI c.window,zI c.base,zI c.gain,zI c.least,zI c.most,zI c.slack,zI c.num,zI c.den,zI c.extra,.bool (c.curve)]] w0 (zAf w0 (.agg #[zI c.base,zI 2305843009213693952,zI c.least,zI 2305843009213693952,zI c.most,zI 2305843009213693952,zI c.slack,zI 2305843009213693952,zI c.gain,zI 68719476736])):=by
 refine zG (F0:=[(0,.agg #[zI c.ring,zI c.window,zI c.base,zI c.gain,zI c.least,zI c.most,zI c.slack,zI c.num,zI c.den,zI c.extra,.bool (c.curve)])]) func156 rfl rfl rfl (.c .n) (Mem.nil _) ?_
 refine go 19 [0,1,1,1,1,1,0] [2] .n (λg1=>λg2=>⟨rfl,rfl,rfl,rfl,rfl,rfl,?_⟩)
 intro a w hs;exact zM6 hs rfl rfl .z (.z (.c (.c (.c (.c (.c (.c (.c (.c (.c (.c .n))))))))))) isAgg256 sizeOf256 (.c (.s .z) (.c .z .n)) ⟨rfl,rfl⟩
theorem zNt (c:zAG) (w0:World):Calls Tryz.prog 111 #[.agg #[zI c.ring,zI c.window,zI c.base,zI c.gain,zI c.least,zI c.most,zI c.slack,zI c.num,zI c.den,zI c.extra,.bool (c.curve)]] w0 (zAf w0 (nI (zH6 c))):=by
 refine zG (F0:=[(0,.agg #[zI c.ring,zI c.window,zI c.base,zI c.gain,zI c.least,zI c.most,zI c.slack,zI c.num,zI c.den,zI c.extra,.bool (c.curve)])]) func111 rfl rfl rfl (.c .n) (Mem.nil _) ?_
 refine go 3 [0,0] [5,1] .n (λg1=>⟨rfl,?_⟩)
 intro a w hs;refine zB (v:=.agg #[zI c.base,zI 2305843009213693952,zI c.least,zI 2305843009213693952,zI c.most,zI 2305843009213693952,zI c.slack,zI 2305843009213693952,zI c.gain,zI 68719476736]) hs (.c rfl .n) call156 (zaU c _) rfl ?_
 refine goL 1 [] [7,6,1] .n ?_
 intro a w hs;refine zCo 5 ?_
 revert a w hs
 refine go 9 [0,0] [13,4,7,6,1] .n (λg2=>⟨rfl,rfl,?_⟩)
 intro a w hs;refine zY (b:=decide (c.base<0)) (λc_3=>?_) (λc_3=>?_)
 ·
  rw [c_3] at hs
  replace c_3:=of_decide_eq_true c_3
  revert a w hs
  refine go 8 [] [2] .n ?_
  refine cl (·.drop (.c (.s .z) (.c .z .n))) ?_
  intro a w hs;exact fin hs rfl rfl ⟨congrArg (λn:Nat=>Value.int .i64 (n:Int)) (zF5 (by unfold zLd;omega)),rfl⟩
 rw [c_3] at hs
 replace c_3:=of_decide_eq_false c_3
 revert a w hs
 refine go 6 [0,0] [19,7,6,1] (.c .z .n) ⟨rfl,rfl,?_⟩
 refine ifG rfl (λc_4=>?_) (λc_4=>?_)
 ·
  refine go 1 [] [2] .n ?_
  refine cl (·.drop (.c (.s .z) (.c .z .n))) ?_
  intro a w hs;exact fin hs rfl rfl ⟨congrArg (λn:Nat=>Value.int .i64 (n:Int)) (zF5 (by unfold zLd;omega)),rfl⟩
 refine go 2 [] [7,6,1] .n ⟨by decide,?_⟩
 intro a w hs;refine zAT ?_
 revert a w hs
 refine go 9 [0,0] [13,4,7,6,1] .n (λg5=>⟨rfl,rfl,?_⟩)
 intro a w hs;refine zY (b:=decide (c.least<0)) (λc_6=>?_) (λc_6=>?_)
 ·
  rw [c_6] at hs
  replace c_6:=of_decide_eq_true c_6
  revert a w hs
  refine go 8 [] [2] .n ?_
  refine cl (·.drop (.c (.s (.s .z)) (.c (.s .z) (.c .z .n)))) ?_
  intro a w hs;exact fin hs rfl rfl ⟨congrArg (λn:Nat=>Value.int .i64 (n:Int)) (zF5 (by unfold zLd;omega)),rfl⟩
 rw [c_6] at hs
 replace c_6:=of_decide_eq_false c_6
 revert a w hs
 refine go 6 [0,0] [19,7,6,1] (.c .z .n) ⟨rfl,rfl,?_⟩
 refine ifG rfl (λc_7=>?_) (λc_7=>?_)
 ·
  refine go 1 [] [2] .n ?_
  refine cl (·.drop (.c (.s (.s .z)) (.c (.s .z) (.c .z .n)))) ?_
  intro a w hs;exact fin hs rfl rfl ⟨congrArg (λn:Nat=>Value.int .i64 (n:Int)) (zF5 (by unfold zLd;omega)),rfl⟩
 refine go 2 [] [7,6,1] .n ⟨by decide,?_⟩
 intro a w hs;refine zAT ?_
 revert a w hs
 refine go 9 [0,0] [13,4,7,6,1] .n (λg8=>⟨rfl,rfl,?_⟩)
 intro a w hs;refine zY (b:=decide (c.most<0)) (λc_9=>?_) (λc_9=>?_)
 ·
  rw [c_9] at hs
  replace c_9:=of_decide_eq_true c_9
  revert a w hs
  refine go 8 [] [2] .n ?_
  refine cl (·.drop (.c (.s (.s (.s .z))) (.c (.s (.s .z)) (.c (.s .z) (.c .z .n))))) ?_
  intro a w hs;exact fin hs rfl rfl ⟨congrArg (λn:Nat=>Value.int .i64 (n:Int)) (zF5 (by unfold zLd;omega)),rfl⟩
 rw [c_9] at hs
 replace c_9:=of_decide_eq_false c_9
 revert a w hs
 refine go 6 [0,0] [19,7,6,1] (.c .z .n) ⟨rfl,rfl,?_⟩
 refine ifG rfl (λc_10=>?_) (λc_10=>?_)
 ·
  refine go 1 [] [2] .n ?_
  refine cl (·.drop (.c (.s (.s (.s .z))) (.c (.s (.s .z)) (.c (.s .z) (.c .z .n))))) ?_
  intro a w hs;exact fin hs rfl rfl ⟨congrArg (λn:Nat=>Value.int .i64 (n:Int)) (zF5 (by unfold zLd;omega)),rfl⟩
 refine go 2 [] [7,6,1] .n ⟨by decide,?_⟩
 intro a w hs;refine zAT ?_
 revert a w hs
 refine go 9 [0,0] [13,4,7,6,1] .n (λg11=>⟨rfl,rfl,?_⟩)
 intro a w hs;refine zY (b:=decide (c.slack<0)) (λc_12=>?_) (λc_12=>?_)
 ·
  rw [c_12] at hs
  replace c_12:=of_decide_eq_true c_12
  revert a w hs
  refine go 8 [] [2] .n ?_
  refine cl (·.drop (.c (.s (.s (.s (.s .z)))) (.c (.s (.s (.s .z))) (.c (.s (.s .z)) (.c (.s .z) (.c .z .n)))))) ?_
  intro a w hs;exact fin hs rfl rfl ⟨congrArg (λn:Nat=>Value.int .i64 (n:Int)) (zF5 (by unfold zLd;omega)),rfl⟩
 rw [c_12] at hs
 replace c_12:=of_decide_eq_false c_12
 revert a w hs
 refine go 6 [0,0] [19,7,6,1] (.c .z .n) ⟨rfl,rfl,?_⟩
 refine ifG rfl (λc_13=>?_) (λc_13=>?_)
 ·
  refine go 1 [] [2] .n ?_
  refine cl (·.drop (.c (.s (.s (.s (.s .z)))) (.c (.s (.s (.s .z))) (.c (.s (.s .z)) (.c (.s .z) (.c .z .n)))))) ?_
  intro a w hs;exact fin hs rfl rfl ⟨congrArg (λn:Nat=>Value.int .i64 (n:Int)) (zF5 (by unfold zLd;omega)),rfl⟩
 refine go 2 [] [7,6,1] .n ⟨by decide,?_⟩
 intro a w hs;refine zAT ?_
 revert a w hs
 refine go 9 [0,0] [13,4,7,6,1] .n (λg14=>⟨rfl,rfl,?_⟩)
 intro a w hs;refine zY (b:=decide (c.gain<0)) (λc_15=>?_) (λc_15=>?_)
 ·
  rw [c_15] at hs
  replace c_15:=of_decide_eq_true c_15
  revert a w hs
  refine go 8 [] [2] .n ?_
  refine cl (·.drop (.c (.s (.s (.s (.s (.s .z))))) (.c (.s (.s (.s (.s .z)))) (.c (.s (.s (.s .z))) (.c (.s (.s .z)) (.c (.s .z) (.c .z .n))))))) ?_
  intro a w hs;exact fin hs rfl rfl ⟨congrArg (λn:Nat=>Value.int .i64 (n:Int)) (zF5 (by unfold zLd;omega)),rfl⟩
 rw [c_15] at hs
 replace c_15:=of_decide_eq_false c_15
 revert a w hs
 refine go 6 [0,0] [19,7,6,1] (.c .z .n) ⟨rfl,rfl,?_⟩
 refine ifG rfl (λc_16=>?_) (λc_16=>?_)
 ·
  refine go 1 [] [2] .n ?_
  refine cl (·.drop (.c (.s (.s (.s (.s (.s .z))))) (.c (.s (.s (.s (.s .z)))) (.c (.s (.s (.s .z))) (.c (.s (.s .z)) (.c (.s .z) (.c .z .n))))))) ?_
  intro a w hs;exact fin hs rfl rfl ⟨congrArg (λn:Nat=>Value.int .i64 (n:Int)) (zF5 (by unfold zLd;omega)),rfl⟩
 refine go 2 [] [7,6,1] .n ⟨by decide,?_⟩
 intro a w hs;refine zAT ?_
 revert a w hs
 refine go 7 [0,0] [25] (.c (.s (.s (.s (.s (.s .z))))) .n) ⟨rfl,rfl,?_⟩
 refine ifG rfl (λc_17=>?_) (λc_17=>?_)
 ·
  refine go 1 [] [2] .n ?_
  refine cl (·.drop (.c (.s (.s (.s (.s (.s .z))))) (.c (.s (.s (.s (.s .z)))) (.c (.s (.s (.s .z))) (.c (.s (.s .z)) (.c (.s .z) (.c .z .n))))))) ?_
  intro a w hs;exact fin hs rfl rfl ⟨congrArg (λn:Nat=>Value.int .i64 (n:Int)) (zYF (by unfold zLd;omega) (by omega)),rfl⟩
 refine go 1 [] [2] .n ?_
 refine cl (·.drop (.c (.s (.s (.s (.s (.s .z))))) (.c (.s (.s (.s (.s .z)))) (.c (.s (.s (.s .z))) (.c (.s (.s .z)) (.c (.s .z) (.c .z .n))))))) ?_
 intro a w hs;exact fin hs rfl rfl ⟨congrArg (λn:Nat=>Value.int .i64 (n:Int)) (zbL (by unfold zLd;omega) (by omega)),rfl⟩
theorem zRF (c:zAG) (j:Int) (hj : -9223372036854775808≤j∧j≤9223372036854775807) (w0:World):Calls Tryz.prog 110 #[.agg #[zI c.ring,zI c.window,zI c.base,zI c.gain,zI c.least,zI c.most,zI c.slack,zI c.num,zI c.den,zI c.extra,.bool (c.curve)],zI j] w0 (zAf w0 (zI (zJi c j))):=by
 refine zG (F0:=[(0,.agg #[zI c.ring,zI c.window,zI c.base,zI c.gain,zI c.least,zI c.most,zI c.slack,zI c.num,zI c.den,zI c.extra,.bool (c.curve)]),(1,zI j)]) func110 rfl rfl rfl (.c (.c .n)) (Mem.nil _) ?_
 refine go 3 [0,0] [5,2,1] .n (λg1=>⟨rfl,?_⟩)
 intro a w hs;refine zB (v:=nI (zH6 c)) hs (.c rfl .n) call111 (zNt c _) rfl ?_
 refine goL 1 [] [7,2,1] .n ?_
 refine ifG rfl (λc_2=>?_) (λc_2=>?_)
 ·
  refine go 1 [] [4] .n ?_
  refine cl (·.drop (.c .z .n)) ?_
  intro a w hs;exact fin hs rfl rfl ⟨congrArg (Value.int .i64) (zbN (by assumption)),rfl⟩
 have hc1:=zIj (zC9 (by assumption))
 refine go 0 [] [2,1] .n ?_
 intro a w hs
 refine zR [.p [] [],.p [0] [0],.p [] [],.p [2] [0],.p [] [],.p [4] [],.v [5,3] (zI (zA0 c.gain (max 0 j))),.v [6,1] (zI (zDD c.base (zA0 c.gain (max 0 j)))),.p [] [],.p [8] [0],.p [] [],.p [10] [0],.v [11,9,7] (zI (zHk (zDD c.base (zA0 c.gain (max 0 j))) c.least c.most)),.p [12] []] [13] hs .n (.c .z .n) (by kernel_rfl) ⟨rfl,rfl,λ_ _ _ _ hm hs K=>zB (v:=zI (zA0 c.gain (max 0 j))) hs (.c rfl (.c rfl .n)) call155 (zDW c.gain (max 0 j) (by omega) (by omega) _) rfl (vk K),λ_ _ _ _ hm hs K=>zB (v:=zI (zDD c.base (zA0 c.gain (max 0 j)))) hs (.c rfl (.c rfl .n)) call118 (zFQ c.base (zA0 c.gain (max 0 j)) (by omega) (zCz _ _) _) rfl (vk K),rfl,rfl,λ_ _ _ _ hm hs K=>zB (v:=zI (zHk (zDD c.base (zA0 c.gain (max 0 j))) c.least c.most)) hs (.c rfl (.c rfl (.c rfl .n))) call54 (zLv (zDD c.base (zA0 c.gain (max 0 j))) c.least c.most _) rfl (vk K),⟨rfl,by kernel_rfl,λ_=>rfl,rfl,rfl,trivial⟩,λ_=>rfl,?_⟩
 refine goE 0 [] [4] .n ?_
 refine cl (·.drop (.c .z .n)) ?_
 intro a w hs;exact fin hs rfl rfl ⟨congrArg (Value.int .i64) (zcp (by assumption)),rfl⟩
theorem zZ9 (g:Nat) (c:zAG) (now ch j:Int) (hj : -9223372036854775808≤j∧j≤9223372036854775807) (hc:zH6 c=0) (hn:c.least≤now∧now≤c.most) (w0:World) (hg:(blk g [zI c.ring,zI c.window,zI c.base,zI c.gain,zI c.least,zI c.most,zI c.slack,zI c.num,zI c.den,zI c.extra,.bool (c.curve),zI now,zI ch] 204).p w0):Calls Tryz.prog 69 #[pt g 0,.int .i64 j] w0 (Ret w0 [g] λu N=>u=zI (zUQ c now j)∧N=[blk g [zI c.ring,zI c.window,zI c.base,zI c.gain,zI c.least,zI c.most,zI c.slack,zI c.num,zI c.den,zI c.extra,.bool (c.curve),zI (zUQ c now j),zI (dCh c now j ch)] 204]):=by
 have hc1:=zIj hc
 have ht:=zKk (j:=j) hc
 refine zG (F0:=[(0,pt g 0),(1,zI j)]) func69 rfl rfl rfl (.c (.c .n)) (zAq hg) ?_
 refine go 9 [0] [12,11,0] (.c .z .n) ⟨rfl,?_⟩
 intro a w hs;refine zB (v:=zI (zJi c j)) hs (.c rfl (.c rfl .n)) call110 (zRF c j (by omega) _) rfl ?_
 refine goL 1 [] [5,0] .n ?_
 intro a w hs
 refine zR [.p [] [],.p [] [],.p [1] [],.p [2] [],.p [3] [0],.p [4,0] [],.p [] [],.p [6] [],.p [7] [],.p [8] [0],.p [] [],.p [10,9] [],.p [11,5] [],.p [] [],.p [13] [],.p [14] [],.p [15] [],.p [16] [0],.p [17,12] []] [18] hs .n (.c .z .n) (by kernel_rfl) ⟨rfl,(by omega),rfl,(by omega),rfl,⟨rfl,by kernel_rfl,λ_=>rfl,rfl,rfl,trivial⟩,λ_=>rfl,?_⟩
 refine goE 0 [] [32,5,0] .n ?_
 refine ifG rfl (λc_2=>?_) (λc_2=>?_)
 ·
  refine go 9 [0,0] [40,37,0] (.c .z .n) ⟨rfl,rfl,?_⟩
  intro a w hs;refine zDe hs rfl rfl rfl ?_
  refine goL 8 [0,0] [4] (.c .z .n) ⟨rfl,rfl,?_⟩
  have hdn:zUQ c now j=zJi c j:=if_pos (by assumption);have hdc2:dCh c now j ch=IntKind.i64.wrap (ch+1):=if_pos (by assumption)
  intro a w hs;exact fin hs rfl rfl ⟨by rw [hdn],by rw [hdn,hdc2]⟩
 refine go 5 [0] [4] (.c .z .n) ⟨rfl,?_⟩
 have hdn:zUQ c now j=now:=if_neg (by assumption);have hdc2:dCh c now j ch=ch:=if_neg (by assumption)
 intro a w hs;exact fin hs rfl rfl ⟨by rw [hdn],by rw [hdn,hdc2]⟩
theorem zYa (g:Nat) (c:zAG) (now ch:Int) (w0:World) (hg:(blk g [zI c.ring,zI c.window,zI c.base,zI c.gain,zI c.least,zI c.most,zI c.slack,zI c.num,zI c.den,zI c.extra,.bool (c.curve),zI now,zI ch] 204).p w0):Calls Tryz.prog 71 #[pt g 0] w0 (zAf w0 (.int .i64 now)):=by
 refine zG (F0:=[(0,pt g 0)]) func71 rfl rfl rfl (.c .n) (Mem.nil _) ?_
 refine go 7 [] [7] .n ?_
 intro a w hs;refine zZ hs rfl (hs.mem.keep hg (by simp [zO,blk])) (.s (.s (.s (.s (.s (.s (.s (.s (.s (.s (.s .z))))))))))) isAgg2 rfl ?_
 refine goL 1 [] [2] .n ?_
 intro a w hs;exact fin hs rfl rfl ⟨rfl,rfl⟩
theorem zam (c:zAG) (hc:zH6 c=0) (w0:World):Calls Tryz.prog 75 #[.agg #[zI c.ring,zI c.window,zI c.base,zI c.gain,zI c.least,zI c.most,zI c.slack,zI c.num,zI c.den,zI c.extra,.bool (c.curve)]] w0 (Ret w0 [] λu N=>∃ r,u = .tuple #[pt r 0,.int .i64 0]∧N=[blk r [zI c.ring,zI c.window,zI c.base,zI c.gain,zI c.least,zI c.most,zI c.slack,zI c.num,zI c.den,zI c.extra,.bool (c.curve),zI (zJi c 0),zI 0] 204]):=by
 refine zG (F0:=[(0,.agg #[zI c.ring,zI c.window,zI c.base,zI c.gain,zI c.least,zI c.most,zI c.slack,zI c.num,zI c.den,zI c.extra,.bool (c.curve)])]) func75 rfl rfl rfl (.c .n) (Mem.nil _) ?_
 refine go 4 [0,0] [5,1] .n (λg1=>⟨rfl,?_⟩)
 intro a w hs;refine zB (v:=nI (zH6 c)) hs (.c rfl .n) call111 (zNt c _) rfl ?_
 refine goL 3 [] [8,4,1] .n ?_
 refine ifG rfl (λc_2=>?_) (λc_2=>?_)
 ·
  exfalso;omega
 refine go 0 [] [1] .n ?_
 intro a w hs
 refine zAS [.p [] [0],.p [] [0],.v [1] (zI (zJi c 0)),.p [2,0] [],.x [3] ⟨[],[],[],λvs3=>vs3 4=pt (zDC (vs3 4)) 0,λvs3=>[blk (zDC (vs3 4)) [zI c.ring,zI c.window,zI c.base,zI c.gain,zI c.least,zI c.most,zI c.slack,zI c.num,zI c.den,zI c.extra,.bool (c.curve),zI (zJi c 0),zI 0] 204],none⟩,.x [] ⟨[],[],[4],λvs3=>vs3 5=pt (zDC (vs3 4)) 0,λvs3=>[],none⟩,.p [] []] [6] hs .n .n (.c .z .n) (by kernel_rfl) ⟨rfl,rfl,λ_ _ _ _ hm hs K=>zB (v:=zI (zJi c 0)) hs (.c rfl (.c rfl .n)) call110 (zRF c 0 (by omega) _) rfl (vk K),⟨.n,by kernel_rfl,λ_=>rfl,rfl,rfl⟩,⟨?_,?_,trivial⟩,?_⟩
 ·
  intro a_ w_ R_ rest_ vs3 hm hs ht hx
  have hs0:=hs.bare
  refine zJ9 (cs:=[zI c.ring,zI c.window,zI c.base,zI c.gain,zI c.least,zI c.most,zI c.slack,zI c.num,zI c.den,zI c.extra,.bool (c.curve),zI (zJi c 0),zI 0]) hs rfl rfl rfl ?_;clear hs;intro g4 a w hs
  exact wpList_nil ⟨rfl,_,_,hs0,(.c .r),hs,rfl⟩
 ·
  intro a_ w_ R_ rest_ vs3 hm hs ht hx
  have t4:=ht 4 (zD 7 _ (by kernel_rfl))
  have e4:_=some (vs3 4):=t4.val rfl
  rw [show vs3 4=pt (zDC (vs3 4)) 0 from t4.2.1] at e4
  replace hs:=hs.learn e4
  have hs0:=hs.bare
  refine zEH hs rfl rfl ?_;clear hs;intro a w hs
  exact wpList_nil ⟨rfl,_,_,hs0,(.c .r),hs,rfl⟩
 clear hs w a;intro vs3 a w hs hf
 obtain ⟨e5,q5⟩:=hf 5 (by decide)
 replace e5:_=some (vs3 5):=e5.val rfl
 rw [show vs3 5=pt (zDC (vs3 4)) 0 from q5] at e5
 replace hs:=hs.learn e5;clear e5 q5
 generalize zDC (vs3 4)=g5 at hs
 clear hf
 revert a w hs
 refine goE 0 [] [2,3] .n ?_
 refine cl (·.drop (.c .z .n)) ?_
 intro a w hs;exact zBR hs rfl rfl rfl ⟨_,rfl,rfl⟩
theorem zWQ (x y:Int) (hx : -9223372036854775808≤x∧x≤9223372036854775807) (hy : -9223372036854775808≤y∧y≤9223372036854775807) (w0:World):Calls Tryz.prog 109 #[zI x,zI y] w0 (zAf w0 (zI (zEs x y))):=by
 refine zG (F0:=[(0,zI x),(1,zI y)]) func109 rfl rfl rfl (.c (.c .n)) (Mem.nil _) ?_
 refine go 11 [] [12,9] .n ⟨(by omega),?_⟩
 intro a w hs;refine zT2 (m:=4) hs rfl rfl (by decide) rfl ?_
 intro a w hs;rw [zVv] at hs
 revert a w hs
 refine goL 2 [] [4] .n ⟨(by omega),?_⟩
 intro a w hs;exact fin hs rfl rfl ⟨rfl,rfl⟩
theorem zYB (w0:World):Calls Tryz.prog 76 #[] w0 (Ret w0 [] λu N=>∃ r,u=pt r 0∧N=[blk r [zI 0,zI 0] 201]):=by
 refine zG (F0:=[]) func76 rfl rfl rfl .n (Mem.nil _) ?_
 refine go 4 [0] [0] .n (λg1=>?_)
 intro a w hs;exact fin hs rfl rfl ⟨_,rfl,rfl⟩
theorem zS7 (g:Nat) (j c:Int) (w0:World) (hg:(blk g [zI j,zI c] 201).p w0):Calls Tryz.prog 70 #[pt g 0] w0 (zAf w0 (.int .i64 j)):=by
 refine zG (F0:=[(0,pt g 0)]) func70 rfl rfl rfl (.c .n) (Mem.nil _) ?_
 refine go 7 [] [7] .n ?_
 intro a w hs;refine zZ hs rfl (hs.mem.keep hg (by simp [zO,blk])) .z isAgg2 rfl ?_
 refine goL 1 [] [2] .n ?_
 intro a w hs;exact fin hs rfl rfl ⟨rfl,rfl⟩
theorem zVt (g b:Nat) (j c:Int) (hgb:b≠g) (w0:World) (hb:(blk b [pt g 0] 134).p w0) (hg:(blk g [zI j,zI c] 201).p w0):CallsD Tryz.prog 108 #[pt b 0] .returning w0 λe u' w'=>u' = .returning∧Ret w0 [g] (λu N=>N=[blk g [zI j,zI (IntKind.i64.wrap (c+1))] 201]) e w':=by
 refine zYd (F0:=[(0,pt b 0)]) func108 rfl rfl rfl (.c .n) (zAq hg) ?_
 refine go 0 [] [0] .n ?_
 intro a w hs;refine zZ hs rfl (hs.mem.keep hb (by simpa [zO,blk] using hgb)) .z isAgg134 rfl ?_
 refine goL 3 [0] [4,1] (.c .z .n) ⟨rfl,?_⟩
 intro a w hs;refine zDe hs rfl rfl rfl ?_
 refine goL 3 [0] [] (.c .z .n) ⟨rfl,?_⟩
 intro a w hs;exact zJW hs rfl rfl
theorem zaN (g:Nat) (j c x:Int) (hj : -9223372036854775808≤j∧j≤9223372036854775807) (hx : -9223372036854775808≤x∧x≤9223372036854775807) (w0:World) (hg:(blk g [zI j,zI c] 201).p w0):Calls Tryz.prog 68 #[pt g 0,.int .i64 x] w0 (Ret w0 [g] λu N=>u = .int .i64 0∧N=[blk g [zI (zEs j x),zI (IntKind.i64.wrap (c+1))] 201]):=by
 refine zbI (F0:=[(0,pt g 0),(1,zI x)]) func68 rfl rfl rfl (.c (.c .n)) (zAq hg) λa w hs=>?_
 refine wp_seq_k λK1 hK2=>?_
 refine wp_region_lit ?_
 refine zJ9 (cs:=[pt g 0]) hs rfl rfl rfl ?_;clear hs w a;intro g3 a w hs
 refine zEH hs rfl rfl ?_;clear hs w a;intro a w hs
 refine wpList_nil ?_
 refine zAw (hK2 _ _ ?_)
 refine wp_seq_k λK4 hK5=>?_
 refine wp_seq_k λK6 hK7=>?_
 refine wp_region_lit ?_
 refine zLj hs rfl .z .z isAgg134 rfl ?_;clear hs w a;intro a w hs
 refine zKy hs rfl rfl underlying134 rfl ?_;clear hs w a;intro a w hs
 refine wpList_nil ?_
 refine zAw (hK7 _ _ ?_)
 refine wp_cond_false (hs.ev rfl) ?_
 refine wp_skip ?_
 refine zAw (hK5 _ _ ?_)
 refine wp_seq_k λK8 hK9=>?_
 refine wp_region_lit ?_
 refine zbJ hs .n (.c rfl .n) rfl ?_;clear hs w a;intro a w hs
 refine zVI hs rfl (wpList_nil ?_)
 refine zAw (hK9 _ _ ?_)
 refine wp_seq_k λK9 hK9=>?_
 
 refine zRA (λ_ _ h=>(by obtain ⟨_,_,h,_⟩:=h;cases h)) [.p [] [0],.p [] [0],.p [1] [],.p [2] [],.l [3] [0] [9] [],.p [] [],.v [5,4] (zI (zEs j x)),.p [0] [],.p [7] [],.s [8,6] [0] [0] []] [] hs (.c (.s .z) .n) (.c .z .n) (by kernel_rfl) ⟨rfl,rfl,rfl,λ_ _ _ _ hm hs K=>zB (v:=zI (zEs j x)) hs (.c rfl (.c rfl .n)) call109 (zWQ j x (by omega) (by omega) _) rfl (vk K),rfl,⟨rfl,by kernel_rfl,λ_=>rfl,rfl,rfl,trivial⟩,λ_=>rfl,?_⟩
 intro a w hs;refine zAw (hK9 _ _ ?_)
 refine wp_seq_k λK8 hK8=>?_
 refine wp_region_lit (zOv (λ_ _ h=>(by obtain ⟨_,_,h,_⟩:=h;cases h)) _ _ _ ?_)
 refine zEH hs rfl rfl ?_;clear hs w a;intro a w hs
 refine wpList_nil ?_
 refine zAw (hK8 _ _ ?_)
 refine wp_ret ?_
 refine zR9 hs rfl rfl rfl ((zVt g g3 _ _ ?_ _ (hs.mem.del .z) (hs.mem.del (.s .z))).mono ?_)
 ·have hn:=hs.mem.nd;intro he;subst he;simp [zO,blk] at hn
 ·rintro e u' w' ⟨rfl,u,N,rfl,rfl,hM⟩
  have hM2:=hs.mem.frame (X:=[blk g [zI (zEs j x),zI c] 201]) (.c (.s .z) .n) hM
  exact ⟨rfl,⟨_,rfl⟩,_,_,rfl,⟨rfl,rfl⟩,hM2.drop (.c (.s .z) .n)⟩
theorem zXg (x y:Int) (w0:World):Calls Tryz.prog 105 #[zI x,zI y] w0 (zAf w0 (.bool (decide (y<x)))):=by
 refine zG (F0:=[(0,zI x),(1,zI y)]) func105 rfl rfl rfl (.c (.c .n)) (Mem.nil _) ?_
 refine go 5 [] [4] .n ?_
 intro a w hs;exact fin hs rfl rfl ⟨rfl,rfl⟩
theorem zXe (x y:Int) (w0:World):Calls Tryz.prog 106 #[zI x,zI y] w0 (zAf w0 (.bool (decide (x<y)))):=by
 refine zG (F0:=[(0,zI x),(1,zI y)]) func106 rfl rfl rfl (.c (.c .n)) (Mem.nil _) ?_
 refine go 5 [] [4] .n ?_
 intro a w hs;exact fin hs rfl rfl ⟨rfl,rfl⟩
theorem zar (c:Int) (h:1≤c∧c≤64) (w0:World):Calls Tryz.prog 73 #[.int .i64 c] w0 (Ret w0 [] λu N=>∃ r,u = .tuple #[pt r 0,.int .i64 0]∧N=[blk r [zI c,.slice none 0 0,.slice none 0 0,.slice none 0 0] 195]):=by
 refine zG (F0:=[(0,zI c)]) func73 rfl rfl rfl (.c .n) (Mem.nil _) ?_
 refine go 5 [] [6,0] .n ?_
 intro a w hs;refine zY (b:=decide (c<1)) (λc_1=>?_) (λc_1=>?_)
 ·
  rw [c_1] at hs
  replace c_1:=of_decide_eq_true c_1
  revert a w hs
  refine go 6 [] [3,2] .n ?_
  exfalso;omega
 rw [c_1] at hs
 replace c_1:=of_decide_eq_false c_1
 revert a w hs
 refine go 3 [] [9,0] .n ?_
 refine ifG rfl (λc_2=>?_) (λc_2=>?_)
 ·
  refine go 2 [] [3,2] .n ?_
  exfalso;omega
 refine go 5 [0] [3,2] .n (λg3=>?_)
 intro a w hs;exact zBR hs rfl rfl rfl ⟨_,rfl,rfl⟩
theorem zS2 (l:List Int) (v:Value) (w0:World) (hb:Rd w0 [] v 1 l.length (iV l)):Calls Tryz.prog 107 #[v] w0 (zAf w0 (.tuple #[zI (l.getD 0 0),.bool (decide (0<l.length))])):=by
 refine zG (F0:=[(0,v)]) func107 rfl rfl rfl (.c .n) (Mem.nil _) ?_
 refine go 3 [] [4,2,0] .n ?_
 intro a w hs;refine zAC hs rfl (hs.rd0 hb).isSl underlying56 rfl ?_
 refine goL 1 [] [6,2,0] .n ?_
 refine ifG rfl (λc_1=>?_) (λc_1=>?_)
 ·
  refine go 3 [] [3,2] .n ?_
  intro a w hs;exact zBR hs rfl rfl rfl ⟨zRG (by assumption),rfl⟩
 refine go 1 [] [8] .n ?_
 intro a w hs;refine zA4 (j:=0) hs rfl rfl (hs.rd0 hb) (by decide) (by omega) underlying56 sizeOf2 rfl ?_
 intro a w hs;refine zB4 (u:=zI (l.getD 0 0)) hs rfl (hs.rd0 hb) (zMI l 0 (by omega)) isAgg2 rfl ?_
 refine goL 2 [] [3,2] .n ?_
 intro a w hs;exact zBR hs rfl rfl rfl ⟨zQE (by assumption),rfl⟩
theorem zLy (g:Nat) (c:Int) (v1 v2 v3:Value) (l:List Int) (w0:World) (hg:(blk g [zI c,v1,v2,v3] 195).p w0) (hb:Rd w0 [] v2 1 l.length (iV l)):Calls Tryz.prog 67 #[pt g 0] w0 (zAf w0 (.tuple #[zI (l.getD 0 0),.bool (decide (0<l.length))])):=by
 refine zG (F0:=[(0,pt g 0)]) func67 rfl rfl rfl (.c .n) (Mem.nil _) ?_
 refine go 8 [] [9] .n ?_
 intro a w hs;refine zZ hs rfl (hs.mem.keep hg (by simp [zO,blk])) (.s (.s .z)) isAgg56 rfl ?_
 intro a w hs;refine zB (v:=.tuple #[zI (l.getD 0 0),.bool (decide (0<l.length))]) hs (.c rfl .n) call107 (zS2 _ _ _ (hs.rd0 hb)) rfl ?_
 refine goL 4 [] [3,2] .n ?_
 intro a w hs;exact zBR hs rfl rfl rfl ⟨rfl,rfl⟩
theorem zPU (l:List Int) (v:Value) (x:Int) (hl:0<l.length) (w0:World) (hb:Rd w0 [] v 1 l.length (iV l)):Calls Tryz.prog 103 #[v,.int .i64 x] w0 (zAf w0 (zDp v l x)):=by
 refine zG (F0:=[(0,v),(1,zI x)]) func103 rfl rfl rfl (.c (.c .n)) (Mem.nil _) ?_
 refine go 2 [] [5,0,1] .n ?_
 intro a w hs;refine zA4 (j:=0) hs rfl rfl (hs.rd0 hb) (by decide) (by omega) underlying56 sizeOf2 rfl ?_
 intro a w hs;refine zB4 (u:=zI (l.getD 0 0)) hs rfl (hs.rd0 hb) (zMI l 0 (by omega)) isAgg2 rfl ?_
 refine goL 2 [] [9,0] .n ?_
 refine ifG rfl (λc_1=>?_) (λc_1=>?_)
 ·
  refine go 1 [] [10] .n ?_
  intro a w hs;refine zJH (j:=1) hs rfl rfl (by decide) (hs.rd0 hb).isSl (by omega) underlying56 sizeOf2 rfl ?_
  refine goL 1 [] [4] .n ?_
  intro a w hs;exact fin hs rfl rfl ⟨zVo (by assumption),rfl⟩
 refine go 2 [] [4] .n ?_
 intro a w hs;exact fin hs rfl rfl ⟨zUg (by assumption),rfl⟩
theorem zIK (f:FuncId) (F:Int→Int→Bool) (hcl:∀ args w,(callFunc f args).run Tryz.prog w = .ok (.enter f args) w) (hf:∀ p q w0,Calls Tryz.prog f #[.int .i64 p,.int .i64 q] w0 (zAf w0 (.bool (F p q)))) (l:List Int) (v:Value) (x:Int) (hl:l.length≤64) (w0:World) (hr:(rwo v 2 (iV l)).p w0):Calls Tryz.prog 104 #[v,.int .i64 x,.func (.func f) #[] #[]] w0 (Ret w0 (zO [rwo v 2 (iV l)]) λu N=>N=[rwo u 2 (iV (zEI F l x))]):=by
 refine zG (F0:=[(0,v),(1,zI x),(2,.func (.func f) #[] #[])]) func104 rfl rfl rfl (.c (.c (.c .n))) (zYI hr) ?_
 refine go 1 [] [0,1,2] .n ?_
 refine cl (·.rerwo .z (show iV l=iV (l.take l.length) by rw [List.take_length])) ?_
 intro a w hs;refine zCU (λmm_ a w=>∃ k:Nat,∃ r:Value,mm_=1+k∧St 30 [(0,r),(1,zI x),(2,.func (.func f) #[] #[])] w0 (zO [rwo v 2 (iV l)]) [rwo r 2 (iV (l.take k))] a w∧k≤l.length∧zKs F l x k=zKs F l x l.length) ⟨l.length,v,rfl,hs.sub (.c rfl (.c rfl (.c rfl .n))),by omega,rfl⟩ ?_
 clear hs w a;rintro mm_ a w ⟨k,r,rfl,hs,hI1_0,hI1_1⟩
 revert a w hs
 refine go 1 [] [7,0,1,2] .n ?_
 intro a w hs;refine zAC hs rfl (zAx (hs.mem.del .z) (List.length_take_of_le (by omega))).isSl underlying56 rfl ?_
 refine goL 2 [] [10,0,1,2] .n ?_
 intro a w hs;refine zY (b:=decide (0<(k:Int))) (λc_1=>?_) (λc_1=>?_)
 ·
  rw [c_1] at hs
  replace c_1:=of_decide_eq_true c_1
  revert a w hs
  refine go 3 [] [13,12,11,10,0,1,2] .n ?_
  intro a w hs;refine zF hs rfl rfl rfl ?_
  refine zAC hs rfl (zAx (hs.mem.del .z) (List.length_take_of_le (by omega))).isSl underlying56 rfl ?_
  refine goL 1 [] [15,12,11,10,0,1,2] .n ⟨(by omega),?_⟩
  have hv_:((k:Int)-1:Int)=(((k-1:Nat):Int):Int):=by omega
  intro a w hs;rw [hv_] at hs;clear hv_
  refine zF hs rfl rfl rfl ?_
  refine zA4 (j:=(k-1)) hs rfl rfl (zAx (hs.mem.del .z) (List.length_take_of_le (by omega))) rfl (by omega) underlying56 sizeOf2 rfl ?_
  intro a w hs;refine zF hs rfl rfl rfl ?_
  refine zB4 (u:=zI (l.getD (k-1) 0)) hs rfl (zAx (hs.mem.del .z) (List.length_take_of_le (by omega))) (zZZ l k (k-1) (by omega) (by omega)) isAgg2 rfl ?_
  refine goL 1 [] [18,17,11,10,0,1,2] .n ?_
  intro a w hs;refine zF hs rfl rfl rfl ?_
  refine zBj (us:=[]) (v:=.bool (F (l.getD (k-1) 0) x)) hs rfl (.c rfl (.c rfl .n)) rfl hcl (hf _ _ _) rfl ?_
  refine goL 1 [] [20,0,1,2] .n ?_
  refine zZr rfl (λc_2=>?_) (λc_2=>?_)
  ·
   refine go 2 [] [22,21,1,2] .n ?_
   intro a w hs;refine zAC hs rfl (zAx (hs.mem.del .z) (List.length_take_of_le (by omega))).isSl underlying56 rfl ?_
   refine goL 1 [] [24,21,1,2] .n ⟨(by omega),?_⟩
   have hv_:((k:Int)-1:Int)=(((k-1:Nat):Int):Int):=by omega
   intro a w hs;rw [hv_] at hs;clear hv_
   refine zKq (j:=(k-1)) hs rfl rfl rfl (zAx (hs.mem.del .z) (List.length_take_of_le (by omega))) (by omega) underlying56 sizeOf2 rfl ?_
   refine goL 1 [] [0,1,2] .n ?_
   refine cl (·.rwoPop .z (by omega) (by omega)) ?_
   intro a w hs;refine ⟨_,?_,(k-1),(zF2 r 1 0 (k-1)),rfl,hs.sub (.c rfl (.c rfl (.c rfl .n))),by omega,zRU hI1_1 (by omega) (by assumption)⟩
   omega
  refine go 3 [] [28,26] .n (λg3=>?_)
  intro a w hs;refine zKl (u:=zI x) (bytes:=8) hs rfl rfl (.s .z) (zAJ (m:=1) (size:=1) (hs.mem.del .z) rfl (by decide)) rfl underlying56 (i:=Tryz.t2) rfl rfl rfl rfl rfl (by rw [zEp,List.length_take_of_le (by omega)];omega) (by rw [zEp,List.length_take_of_le (by omega)];simp only [maxLen];omega) rfl ?_;intro v4
  refine cl (·.rerwo .z (zJz _ _)) ?_
  refine cl (·.drop (.c (.s .z) .n)) ?_
  refine goL 1 [] [6] .n ?_
  have hk:=zKH hI1_1 (by first | (left;omega) | (right;assumption))
  refine cl (·.rerwo (xs':=iV (zEI F l x)) .z (by rw [zEI,← hk])) ?_
  intro a w hs;exact fin hs rfl rfl rfl
 rw [c_1] at hs
 replace c_1:=of_decide_eq_false c_1
 revert a w hs
 refine go 14 [] [28,26] .n (λg5=>?_)
 intro a w hs;refine zKl (u:=zI x) (bytes:=8) hs rfl rfl (.s .z) (zAJ (m:=1) (size:=1) (hs.mem.del .z) rfl (by decide)) rfl underlying56 (i:=Tryz.t2) rfl rfl rfl rfl rfl (by rw [zEp,List.length_take_of_le (by omega)];omega) (by rw [zEp,List.length_take_of_le (by omega)];simp only [maxLen];omega) rfl ?_;intro v6
 refine cl (·.rerwo .z (zJz _ _)) ?_
 refine cl (·.drop (.c (.s .z) .n)) ?_
 refine goL 1 [] [6] .n ?_
 have hk:=zKH hI1_1 (by first | (left;omega) | (right;assumption))
 refine cl (·.rerwo (xs':=iV (zEI F l x)) .z (by rw [zEI,← hk])) ?_
 intro a w hs;exact fin hs rfl rfl rfl
theorem zZ4 (g:Nat) (c x:Int) (v1 v2 v3:Value) (l1 l2 l3:List Int) (hc:1≤c∧c≤64) (h1:(l1.length:Int)≤c) (h2:l2.length≤l1.length) (h3:l3.length≤l1.length) (h0:0<l1.length→0<l2.length∧0<l3.length) (w0:World) (hM:∀ h∈([blk g [zI c,v1,v2,v3] 195,rwo v1 2 (iV l1),rwo v2 2 (iV l2),rwo v3 2 (iV l3)]:List HA),h.p w0) (hnd:(zO [blk g [zI c,v1,v2,v3] 195,rwo v1 2 (iV l1),rwo v2 2 (iV l2),rwo v3 2 (iV l3)]).Nodup):Calls Tryz.prog 66 #[pt g 0,.int .i64 x] w0 (Ret w0 (zO [blk g [zI c,v1,v2,v3] 195,rwo v1 2 (iV l1),rwo v2 2 (iV l2),rwo v3 2 (iV l3)]) λu N=>u = .int .i64 0∧∃ u1 u2 u3,N=[blk g [zI c,u1,u2,u3] 195,rwo u1 2 (iV (zUq c l1 x)),rwo u2 2 (iV (zEI (λp q=>decide (q<p)) (wD c l1 l2) x)),rwo u3 2 (iV (zEI (λp q=>decide (p<q)) (wD c l1 l3) x))]):=by
 have hv2:=(zAx (hM (rwo v2 2 (iV l2)) (by simp)) rfl).isSl
 have hv3:=(zAx (hM (rwo v3 2 (iV l3)) (by simp)) rfl).isSl
 refine zG (F0:=[(0,pt g 0),(1,zI x)]) func66 rfl rfl rfl (.c (.c .n)) (Mem.start hM rfl hnd) ?_
 refine go 4 [] [0,1] .n ?_
 intro a w hs
 refine zR [.p [] [],.p [0] [],.p [1] [],.p [2] [0],.v [3] (nI l1.length),.p [] [],.p [5] [],.p [6] [],.p [7] [0],.p [8,4] []] [9] hs .n (.c .z .n) (by kernel_rfl) ⟨rfl,λ_ _ _ _ hm hs K=>zAC hs rfl (zAx (hm.del (.s .z)) rfl).isSl underlying56 rfl (vk K),rfl,⟨rfl,by kernel_rfl,λ_=>rfl,rfl,rfl,trivial⟩,λ_=>rfl,?_⟩
 refine goE 0 [] [16,0,1] .n ?_
 refine ifG rfl (λc_2=>?_) (λc_2=>?_)
 ·
  have h00:=h0 (by omega)
  refine go 0 [] [0,1] .n ?_
  intro a w hs
  refine zR (dcs [.p [] [],.p [] [],.p [] [],.p [2] [],.p [3] [],.l [4] [0] [26] [],.p [] [],.p [6] [],.p [7] [],.l [8] [0] [26] [],.v [9] (.pointer (some (adr v1 0))),.v [10] (zI (l1.getD 0 0)),.v [11,5] (zDp v2 l2 (l1.getD 0 0)),.p [] [],.p [13] [],.p [14] [],.l [15] [0] [26] [],.p [] [],.p [17] [],.p [18] [],.l [19] [0] [26] [],.v [20] (.pointer (some (adr v1 0))),.v [21] (zI (l1.getD 0 0)),.v [22,16] (zDp v3 l3 (l1.getD 0 0)),.p [0] [],.p [24] [],.s [25,12] [50] [0] [],.p [1] []] [.p [27] [],.s [28,23] [50] [] [26]]) [] hs (.c .z .n) .n (by kernel_rfl) ⟨rfl,rfl,λ_ _ _ _ hm hs K=>zA4 (j:=0) hs rfl rfl (zAx (hm.del .z) rfl) (by decide) (by omega) underlying56 sizeOf2 rfl (vk K),λ_ _ _ _ hm hs K=>zB4 (u:=zI (l1.getD 0 0)) hs rfl (zAx (hm.del .z) rfl) (zMI l1 0 (by omega)) isAgg2 rfl (vk K),λ_ _ _ _ hm hs K=>zB (v:=zDp v2 l2 (l1.getD 0 0)) hs (.c rfl (.c rfl .n)) call103 (zPU _ v2 (l1.getD 0 0) (by omega) _ (zAx (hm.del (.s .z)) rfl)) rfl (vk K),rfl,rfl,λ_ _ _ _ hm hs K=>zA4 (j:=0) hs rfl rfl (zAx (hm.del .z) rfl) (by decide) (by omega) underlying56 sizeOf2 rfl (vk K),λ_ _ _ _ hm hs K=>zB4 (u:=zI (l1.getD 0 0)) hs rfl (zAx (hm.del .z) rfl) (zMI l1 0 (by omega)) isAgg2 rfl (vk K),λ_ _ _ _ hm hs K=>zB (v:=zDp v3 l3 (l1.getD 0 0)) hs (.c rfl (.c rfl .n)) call103 (zPU _ v3 (l1.getD 0 0) (by omega) _ (zAx (hm.del (.s (.s .z))) rfl)) rfl (vk K),rfl,(zJ (Exists.choose_spec (zM9 l2 (l1.getD 0 0) hv2)).one zAe),rfl,(zJ (Exists.choose_spec (zM9 l3 (l1.getD 0 0) hv3)).one zAe),⟨rfl,by kernel_rfl,λ_=>rfl,rfl,rfl,trivial⟩,λ_=>rfl,?_⟩
  refine goE 1 [] [45,0,1] .n ?_
  refine cl (·.rwoDrop (.s .z) (l1.getD 0 0) (by omega)) ?_
  refine cl (·.rwoDrop (.s (.s .z)) (l1.getD 0 0) (by omega)) ?_
  refine go 4 [0] [49,45,0,1] (.c (.s (.s (.s .z))) .n) ⟨rfl,?_⟩
  intro a w hs;refine zJH (j:=1) hs rfl rfl (by decide) (zAx (hs.mem.del (.s (.s (.s .z)))) rfl).isSl (by omega) underlying56 sizeOf2 rfl ?_
  refine goL 2 [] [52,50,0,1] .n ?_
  intro a w hs;refine zBp hs rfl rfl .z (.s .z) ((zAx (hs.mem.del (.s (.s (.s .z)))) rfl).slc (l:=1) (h:=l1.length) (by omega) (by omega)).isSl.one sizeOf56 ?_
  refine goL 1 [] [53,0,1] .n ?_
  refine cl (·.rwoTl (.s (.s (.s .z))) (by omega)) ?_
  have hd1:(l1.drop 1).length=l1.length-1:=by simp
  have hd2:=zL9 l2 (l1.getD 0 0);have hd3:=zL9 l3 (l1.getD 0 0)
  refine go 6 [0] [59,57,53,0,1] (.c (.s .z) .n) ⟨rfl,λg4=>?_⟩
  intro a w hs;refine zKl (u:=zI x) (bytes:=8) hs rfl rfl (.s (.s .z)) (zAJ (m:=1) (size:=1) (hs.mem.del .z) rfl (by decide)) rfl underlying56 (i:=Tryz.t2) rfl rfl rfl rfl rfl (by simp only [zEp];omega) (by simp only [zEp,maxLen];omega) rfl ?_;intro v5
  refine cl (·.rerwo .z (zJz _ _)) ?_
  refine cl (·.drop (.c (.s .z) .n)) ?_
  refine goL 2 [] [62,60,0,1] .n ?_
  intro a w hs;refine zBp hs rfl rfl (.s .z) (.s .z) (zAx (hs.mem.del .z) rfl).isSl.one sizeOf56 ?_
  refine goL 6 [0] [68,67,63,0,1] (.c .z .n) ⟨rfl,?_⟩
  intro a w hs;refine zK hs (.c rfl (.c rfl (.c rfl .n))) call104 (.c (.s (.s (.s .z))) .n) (zIK 105 (λp q=>decide (q<p)) call105 (λp q w=>zXg p q w) (zK9 l2 (l1.getD 0 0)) (zDp v2 l2 (l1.getD 0 0)) x (by omega) _ (hs.mem.del (.s (.s (.s .z))))) rfl ?_;clear hs w a;rintro v6 _ a w rfl hs
  revert a w hs
  refine goL 2 [] [71,69,0,1] .n ?_
  intro a w hs;refine zBp hs rfl rfl (.s .z) (.s (.s .z)) (zAx (hs.mem.del .z) rfl).isSl.one sizeOf56 ?_
  refine goL 6 [0] [77,76,72] (.c .z .n) ⟨rfl,?_⟩
  intro a w hs;refine zK hs (.c rfl (.c rfl (.c rfl .n))) call104 (.c (.s (.s (.s .z))) .n) (zIK 106 (λp q=>decide (p<q)) call106 (λp q w=>zXe p q w) (zK9 l3 (l1.getD 0 0)) (zDp v3 l3 (l1.getD 0 0)) x (by omega) _ (hs.mem.del (.s (.s (.s .z))))) rfl ?_;clear hs w a;rintro v7 _ a w rfl hs
  revert a w hs
  refine goL 2 [] [80,78] .n ?_
  intro a w hs;refine zBp hs rfl rfl (.s .z) (.s (.s (.s .z))) (zAx (hs.mem.del .z) rfl).isSl.one sizeOf56 ?_
  refine goL 1 [] [4] .n ?_
  refine cl (·.reorder (.c .z (.c (.s (.s .z)) (.c (.s .z) (.c .z .n))))) ?_
  intro a w hs;exact fin hs rfl rfl ⟨rfl,v5,v6,v7,by have hq:=(by assumption:((l1.length:Nat):Int)=c);simp only [zUq,wD,if_pos hq]⟩
 refine go 1 [] [53,0,1] .n ?_
 refine go 6 [0] [59,57,53,0,1] (.c .z .n) ⟨rfl,λg8=>?_⟩
 intro a w hs;refine zKl (u:=zI x) (bytes:=8) hs rfl rfl (.s (.s .z)) (zAJ (m:=1) (size:=1) (hs.mem.del .z) rfl (by decide)) rfl underlying56 (i:=Tryz.t2) rfl rfl rfl rfl rfl (by simp only [zEp];omega) (by simp only [zEp,maxLen];omega) rfl ?_;intro v9
 refine cl (·.rerwo .z (zJz _ _)) ?_
 refine cl (·.drop (.c (.s .z) .n)) ?_
 refine goL 2 [] [62,60,0,1] .n ?_
 intro a w hs;refine zBp hs rfl rfl (.s .z) (.s .z) (zAx (hs.mem.del .z) rfl).isSl.one sizeOf56 ?_
 refine goL 6 [0] [68,67,63,0,1] (.c .z .n) ⟨rfl,?_⟩
 intro a w hs;refine zK hs (.c rfl (.c rfl (.c rfl .n))) call104 (.c (.s (.s .z)) .n) (zIK 105 (λp q=>decide (q<p)) call105 (λp q w=>zXg p q w) l2 v2 x (by omega) _ (hs.mem.del (.s (.s .z)))) rfl ?_;clear hs w a;rintro v10 _ a w rfl hs
 revert a w hs
 refine goL 2 [] [71,69,0,1] .n ?_
 intro a w hs;refine zBp hs rfl rfl (.s .z) (.s (.s .z)) (zAx (hs.mem.del .z) rfl).isSl.one sizeOf56 ?_
 refine goL 6 [0] [77,76,72] (.c .z .n) ⟨rfl,?_⟩
 intro a w hs;refine zK hs (.c rfl (.c rfl (.c rfl .n))) call104 (.c (.s (.s (.s .z))) .n) (zIK 106 (λp q=>decide (p<q)) call106 (λp q w=>zXe p q w) l3 v3 x (by omega) _ (hs.mem.del (.s (.s (.s .z))))) rfl ?_;clear hs w a;rintro v11 _ a w rfl hs
 revert a w hs
 refine goL 2 [] [80,78] .n ?_
 intro a w hs;refine zBp hs rfl rfl (.s .z) (.s (.s (.s .z))) (zAx (hs.mem.del .z) rfl).isSl.one sizeOf56 ?_
 refine goL 1 [] [4] .n ?_
 refine cl (·.reorder (.c .z (.c (.s (.s .z)) (.c (.s .z) (.c .z .n))))) ?_
 intro a w hs;exact fin hs rfl rfl ⟨rfl,v9,v10,v11,by have hq:=(by assumption:((l1.length:Nat):Int)≠c);simp only [zUq,wD,if_neg hq]⟩
theorem zNl (c:zAG) (w0:World):Calls Tryz.prog 72 #[.agg #[zI c.ring,zI c.window,zI c.base,zI c.gain,zI c.least,zI c.most,zI c.slack,zI c.num,zI c.den,zI c.extra,.bool (c.curve)]] w0 (zAf w0 (nI (zCm c))):=by
 refine zG (F0:=[(0,.agg #[zI c.ring,zI c.window,zI c.base,zI c.gain,zI c.least,zI c.most,zI c.slack,zI c.num,zI c.den,zI c.extra,.bool (c.curve)])]) func72 rfl rfl rfl (.c .n) (Mem.nil _) ?_
 refine go 6 [0,0] [9,1] .n (λg1=>⟨rfl,?_⟩)
 intro a w hs;refine zY (b:=decide (c.ring<1)) (λc_2=>?_) (λc_2=>?_)
 ·
  rw [c_2] at hs
  replace c_2:=of_decide_eq_true c_2
  revert a w hs
  refine go 16 [] [2] .n ?_
  refine cl (·.drop (.c .z .n)) ?_
  intro a w hs;exact fin hs rfl rfl ⟨congrArg (λn:Nat=>Value.int .i64 (n:Int)) (zPK (by unfold zME;omega)),rfl⟩
 rw [c_2] at hs
 replace c_2:=of_decide_eq_false c_2
 revert a w hs
 refine go 5 [0] [14,1] (.c .z .n) ⟨rfl,?_⟩
 intro a w hs;refine zY (b:=decide (64<c.ring)) (λc_3=>?_) (λc_3=>?_)
 ·
  rw [c_3] at hs
  replace c_3:=of_decide_eq_true c_3
  revert a w hs
  refine go 11 [] [2] .n ?_
  refine cl (·.drop (.c .z .n)) ?_
  intro a w hs;exact fin hs rfl rfl ⟨congrArg (λn:Nat=>Value.int .i64 (n:Int)) (zPK (by unfold zME;omega)),rfl⟩
 rw [c_3] at hs
 replace c_3:=of_decide_eq_false c_3
 revert a w hs
 refine go 5 [0] [19,1] (.c .z .n) ⟨rfl,?_⟩
 intro a w hs;refine zY (b:=decide (c.window<1)) (λc_4=>?_) (λc_4=>?_)
 ·
  rw [c_4] at hs
  replace c_4:=of_decide_eq_true c_4
  revert a w hs
  refine go 6 [] [2] .n ?_
  refine cl (·.drop (.c .z .n)) ?_
  intro a w hs;exact fin hs rfl rfl ⟨congrArg (λn:Nat=>Value.int .i64 (n:Int)) (zPK (by unfold zME;omega)),rfl⟩
 rw [c_4] at hs
 replace c_4:=of_decide_eq_false c_4
 revert a w hs
 refine go 4 [0] [23,1] (.c .z .n) ⟨rfl,?_⟩
 refine ifG rfl (λc_5=>?_) (λc_5=>?_)
 ·
  refine go 1 [] [2] .n ?_
  refine cl (·.drop (.c .z .n)) ?_
  intro a w hs;exact fin hs rfl rfl ⟨congrArg (λn:Nat=>Value.int .i64 (n:Int)) (zPK (by unfold zME;omega)),rfl⟩
 refine go 1 [0] [24,1] (.c .z .n) ⟨rfl,?_⟩
 intro a w hs;refine zB (v:=nI (zH6 c)) hs (.c rfl .n) call111 (zNt c _) rfl ?_
 refine goL 3 [] [27,3,1] .n ?_
 refine ifG rfl (λc_6=>?_) (λc_6=>?_)
 ·
  refine go 2 [] [2] .n ?_
  refine cl (·.drop (.c .z .n)) ?_
  intro a w hs;exact fin hs rfl rfl ⟨congrArg (λn:Nat=>Value.int .i64 (n:Int)) (zcS (by unfold zME;omega) (by assumption)),rfl⟩
 refine go 4 [0,0] [33,31,1] (.c .z .n) ⟨rfl,rfl,?_⟩
 intro a w hs;refine zB (v:=.tuple #[zI (bif zH7 c.num c.den==0 then zEZ 0 c.num c.den else 0),nI (zH7 c.num c.den)]) hs (.c rfl (.c rfl (.c rfl .n))) call112 (zPF 0 c.num c.den (by omega) _) rfl ?_
 refine goL 8 [] [39,1] .n ?_
 intro a w hs;refine zY (b:=!((((zH7 c.num c.den:Nat):Int):Int)==0)) (λc_7=>?_) (λc_7=>?_)
 ·
  rw [c_7] at hs
  replace c_7:=zFy c_7
  replace c_7:=zAR c_7
  revert a w hs
  refine go 11 [] [2] .n ?_
  refine cl (·.drop (.c .z .n)) ?_
  intro a w hs;exact fin hs rfl rfl ⟨congrArg (λn:Nat=>Value.int .i64 (n:Int)) (zTF (by unfold zME;omega) (by assumption) (by omega)),rfl⟩
 rw [c_7] at hs
 replace c_7:=zFv c_7
 replace c_7:=eq_of_beq c_7
 revert a w hs
 refine go 5 [0] [44,1] (.c .z .n) ⟨rfl,?_⟩
 intro a w hs;refine zY (b:=decide (c.extra<0)) (λc_8=>?_) (λc_8=>?_)
 ·
  rw [c_8] at hs
  replace c_8:=of_decide_eq_true c_8
  revert a w hs
  refine go 6 [] [2] .n ?_
  refine cl (·.drop (.c .z .n)) ?_
  intro a w hs;exact fin hs rfl rfl ⟨congrArg (λn:Nat=>Value.int .i64 (n:Int)) (zTF (by unfold zME;omega) (by assumption) (by omega)),rfl⟩
 rw [c_8] at hs
 replace c_8:=of_decide_eq_false c_8
 revert a w hs
 refine go 4 [0] [48] (.c .z .n) ⟨rfl,?_⟩
 refine ifG rfl (λc_9=>?_) (λc_9=>?_)
 ·
  refine go 1 [] [2] .n ?_
  refine cl (·.drop (.c .z .n)) ?_
  intro a w hs;exact fin hs rfl rfl ⟨congrArg (λn:Nat=>Value.int .i64 (n:Int)) (zTF (by unfold zME;omega) (by assumption) (by omega)),rfl⟩
 refine go 1 [] [2] .n ?_
 refine cl (·.drop (.c .z .n)) ?_
 intro a w hs;exact fin hs rfl rfl ⟨congrArg (λn:Nat=>Value.int .i64 (n:Int)) (zb8 (by unfold zME;omega) (by assumption) (by omega)),rfl⟩
end Go.Proofs.YtajjkegcfmhghaaGreat
namespace Go.Proofs
open Go.Shelf
def Tryz.sortE_ren : Go.Shelf.Ren:=⟨fun | 6=>180 | 15=>161 | 14=>206 | 28=>194 | 29=>168 | 20=>213 | 21=>214 | 22=>215 | 23=>216 | 24=>217 | 25=>218 | 26=>219 | 27=>220 | 46=>222 | 47=>209 | 48=>210 | 49=>223 | 50=>224 | 57=>225 | n=>n,fun | 22=>44 | 24=>48 | 25=>249 | 3=>3 | 39=>68 | 0=>0 | 53=>121 | 55=>167 | 4=>4 | 46=>291 | 45=>290 | 50=>184 | 5=>5 | 9=>9 | 66=>311 | 70=>315 | 76=>323 | 77=>324 | n=>n,fun | n=>n⟩
theorem Tryz.sortE : Go.Proofs.SlLaysF0.n6 Tryz.prog Tryz.sortE_ren:={
 mixed:=by kernel_rfl
 f6:=⟨Tryz.f180.name,by decide,Tryz.func180.trans (congrArg some (by kernel_rfl))⟩
 f14:=⟨Tryz.f206.name,by decide,Tryz.func206.trans (congrArg some (by kernel_rfl))⟩
 f15:=Tryz.func161.trans (congrArg some (by kernel_rfl))
 f20:=⟨Tryz.f213.name,by decide,Tryz.func213.trans (congrArg some (by kernel_rfl))⟩
 f21:=⟨Tryz.f214.name,by decide,Tryz.func214.trans (congrArg some (by kernel_rfl))⟩
 f22:=⟨Tryz.f215.name,by decide,Tryz.func215.trans (congrArg some (by kernel_rfl))⟩
 f23:=⟨Tryz.f216.name,by decide,Tryz.func216.trans (congrArg some (by kernel_rfl))⟩
 f24:=⟨Tryz.f217.name,by decide,Tryz.func217.trans (congrArg some (by kernel_rfl))⟩
 f25:=⟨Tryz.f218.name,by decide,Tryz.func218.trans (congrArg some (by kernel_rfl))⟩
 f26:=⟨Tryz.f219.name,by decide,Tryz.func219.trans (congrArg some (by kernel_rfl))⟩
 f27:=⟨Tryz.f220.name,by decide,Tryz.func220.trans (congrArg some (by kernel_rfl))⟩
 f28:=Tryz.func194.trans (congrArg some (by kernel_rfl))
 f29:=Tryz.func168.trans (congrArg some (by kernel_rfl))
 f46:=⟨Tryz.f222.name,by decide,Tryz.func222.trans (congrArg some (by kernel_rfl))⟩
 f47:=Tryz.func209.trans (congrArg some (by kernel_rfl))
 f48:=Tryz.func210.trans (congrArg some (by kernel_rfl))
 f49:=⟨Tryz.f223.name,by decide,Tryz.func223.trans (congrArg some (by kernel_rfl))⟩
 f50:=⟨Tryz.f224.name,by decide,Tryz.func224.trans (congrArg some (by kernel_rfl))⟩
 f57:=⟨Tryz.f225.name,by decide,Tryz.func225.trans (congrArg some (by kernel_rfl))⟩
 t0:=Tryz.underlying0
 a0:=Tryz.isAgg0
 z0:=Tryz.sizeOf0
 v0:=Tryz.zeroValue0
 t3:=Tryz.underlying3
 a3:=Tryz.isAgg3
 z3:=Tryz.sizeOf3
 v3:=Tryz.zeroValue3
 t4:=Tryz.underlying4
 a4:=Tryz.isAgg4
 z4:=Tryz.sizeOf4
 v4:=Tryz.zeroValue4
 t5:=Tryz.underlying5
 a5:=Tryz.isAgg5
 z5:=Tryz.sizeOf5
 v5:=Tryz.zeroValue5
 t9:=Tryz.underlying9
 a9:=Tryz.isAgg9
 z9:=Tryz.sizeOf9
 v9:=Tryz.zeroValue9
 t22:=Tryz.underlying44
 a22:=Tryz.isAgg44
 z22:=Tryz.sizeOf44
 v22:=Tryz.zeroValue44
 t25:=Tryz.underlying249
 a25:=Tryz.isAgg249
 z25:=Tryz.sizeOf249
 v25:=Tryz.zeroValue249
 t39:=Tryz.underlying68
 a39:=Tryz.isAgg68
 z39:=Tryz.sizeOf68
 v39:=Tryz.zeroValue68
 t45:=Tryz.underlying290
 a45:=Tryz.isAgg290
 z45:=Tryz.sizeOf290
 v45:=Tryz.zeroValue290
 t46:=Tryz.underlying291
 a46:=Tryz.isAgg291
 z46:=Tryz.sizeOf291
 v46:=Tryz.zeroValue291
 t50:=Tryz.underlying184
 a50:=Tryz.isAgg184
 z50:=Tryz.sizeOf184
 v50:=Tryz.zeroValue184
 t53:=Tryz.underlying121
 a53:=Tryz.isAgg121
 z53:=Tryz.sizeOf121
 v53:=Tryz.zeroValue121
 t55:=Tryz.underlying167
 a55:=Tryz.isAgg167
 z55:=Tryz.sizeOf167
 v55:=Tryz.zeroValue167
 t66:=Tryz.underlying311
 a66:=Tryz.isAgg311
 z66:=Tryz.sizeOf311
 v66:=Tryz.zeroValue311
 t70:=Tryz.underlying315
 a70:=Tryz.isAgg315
 z70:=Tryz.sizeOf315
 v70:=Tryz.zeroValue315
 t76:=Tryz.underlying323
 a76:=Tryz.isAgg323
 z76:=Tryz.sizeOf323
 v76:=Tryz.zeroValue323
 t77:=Tryz.underlying324
 a77:=Tryz.isAgg324
 z77:=Tryz.sizeOf324
 v77:=Tryz.zeroValue324 }
def Tryz.sortR_ren : Go.Shelf.Ren:=⟨fun | 6=>115 | 15=>161 | 14=>160 | 28=>194 | 29=>168 | 20=>186 | 21=>187 | 22=>188 | 23=>189 | 24=>190 | 25=>191 | 26=>192 | 27=>193 | 46=>208 | 47=>209 | 48=>210 | 49=>211 | 50=>212 | 57=>221 | n=>n,fun | 22=>60 | 24=>55 | 25=>212 | 3=>3 | 39=>68 | 0=>0 | 53=>121 | 55=>167 | 4=>4 | 46=>291 | 45=>290 | 50=>184 | 5=>5 | 9=>9 | 66=>311 | 70=>315 | 76=>323 | 77=>324 | n=>n,fun | n=>n⟩
theorem Tryz.sortR : Go.Proofs.SlLaysF0.n6 Tryz.prog Tryz.sortR_ren:={
 mixed:=by kernel_rfl
 f6:=⟨Tryz.f115.name,by decide,Tryz.func115.trans (congrArg some (by kernel_rfl))⟩
 f14:=⟨Tryz.f160.name,by decide,Tryz.func160.trans (congrArg some (by kernel_rfl))⟩
 f15:=Tryz.func161.trans (congrArg some (by kernel_rfl))
 f20:=⟨Tryz.f186.name,by decide,Tryz.func186.trans (congrArg some (by kernel_rfl))⟩
 f21:=⟨Tryz.f187.name,by decide,Tryz.func187.trans (congrArg some (by kernel_rfl))⟩
 f22:=⟨Tryz.f188.name,by decide,Tryz.func188.trans (congrArg some (by kernel_rfl))⟩
 f23:=⟨Tryz.f189.name,by decide,Tryz.func189.trans (congrArg some (by kernel_rfl))⟩
 f24:=⟨Tryz.f190.name,by decide,Tryz.func190.trans (congrArg some (by kernel_rfl))⟩
 f25:=⟨Tryz.f191.name,by decide,Tryz.func191.trans (congrArg some (by kernel_rfl))⟩
 f26:=⟨Tryz.f192.name,by decide,Tryz.func192.trans (congrArg some (by kernel_rfl))⟩
 f27:=⟨Tryz.f193.name,by decide,Tryz.func193.trans (congrArg some (by kernel_rfl))⟩
 f28:=Tryz.func194.trans (congrArg some (by kernel_rfl))
 f29:=Tryz.func168.trans (congrArg some (by kernel_rfl))
 f46:=⟨Tryz.f208.name,by decide,Tryz.func208.trans (congrArg some (by kernel_rfl))⟩
 f47:=Tryz.func209.trans (congrArg some (by kernel_rfl))
 f48:=Tryz.func210.trans (congrArg some (by kernel_rfl))
 f49:=⟨Tryz.f211.name,by decide,Tryz.func211.trans (congrArg some (by kernel_rfl))⟩
 f50:=⟨Tryz.f212.name,by decide,Tryz.func212.trans (congrArg some (by kernel_rfl))⟩
 f57:=⟨Tryz.f221.name,by decide,Tryz.func221.trans (congrArg some (by kernel_rfl))⟩
 t0:=Tryz.underlying0
 a0:=Tryz.isAgg0
 z0:=Tryz.sizeOf0
 v0:=Tryz.zeroValue0
 t3:=Tryz.underlying3
 a3:=Tryz.isAgg3
 z3:=Tryz.sizeOf3
 v3:=Tryz.zeroValue3
 t4:=Tryz.underlying4
 a4:=Tryz.isAgg4
 z4:=Tryz.sizeOf4
 v4:=Tryz.zeroValue4
 t5:=Tryz.underlying5
 a5:=Tryz.isAgg5
 z5:=Tryz.sizeOf5
 v5:=Tryz.zeroValue5
 t9:=Tryz.underlying9
 a9:=Tryz.isAgg9
 z9:=Tryz.sizeOf9
 v9:=Tryz.zeroValue9
 t22:=Tryz.underlying60
 a22:=Tryz.isAgg60
 z22:=Tryz.sizeOf60
 v22:=Tryz.zeroValue60
 t25:=Tryz.underlying212
 a25:=Tryz.isAgg212
 z25:=Tryz.sizeOf212
 v25:=Tryz.zeroValue212
 t39:=Tryz.underlying68
 a39:=Tryz.isAgg68
 z39:=Tryz.sizeOf68
 v39:=Tryz.zeroValue68
 t45:=Tryz.underlying290
 a45:=Tryz.isAgg290
 z45:=Tryz.sizeOf290
 v45:=Tryz.zeroValue290
 t46:=Tryz.underlying291
 a46:=Tryz.isAgg291
 z46:=Tryz.sizeOf291
 v46:=Tryz.zeroValue291
 t50:=Tryz.underlying184
 a50:=Tryz.isAgg184
 z50:=Tryz.sizeOf184
 v50:=Tryz.zeroValue184
 t53:=Tryz.underlying121
 a53:=Tryz.isAgg121
 z53:=Tryz.sizeOf121
 v53:=Tryz.zeroValue121
 t55:=Tryz.underlying167
 a55:=Tryz.isAgg167
 z55:=Tryz.sizeOf167
 v55:=Tryz.zeroValue167
 t66:=Tryz.underlying311
 a66:=Tryz.isAgg311
 z66:=Tryz.sizeOf311
 v66:=Tryz.zeroValue311
 t70:=Tryz.underlying315
 a70:=Tryz.isAgg315
 z70:=Tryz.sizeOf315
 v70:=Tryz.zeroValue315
 t76:=Tryz.underlying323
 a76:=Tryz.isAgg323
 z76:=Tryz.sizeOf323
 v76:=Tryz.zeroValue323
 t77:=Tryz.underlying324
 a77:=Tryz.isAgg324
 z77:=Tryz.sizeOf324
 v77:=Tryz.zeroValue324 }
def Tryz.cmpInt_ren : Go.Shelf.Ren:=⟨fun | 5=>117 | 7=>162 | n=>n,fun | 22=>3 | 3=>3 | 4=>4 | n=>n,fun | n=>n⟩
theorem Tryz.cmpInt : Go.Proofs.SlLaysC2.n5 Tryz.prog Tryz.cmpInt_ren:={
 mixed:=by kernel_rfl
 f5:=⟨Tryz.f117.name,by decide,Tryz.func117.trans (congrArg some (by kernel_rfl))⟩
 f7:=⟨Tryz.f162.name,by decide,Tryz.func162.trans (congrArg some (by kernel_rfl))⟩
 t3:=Tryz.underlying3
 a3:=Tryz.isAgg3
 z3:=Tryz.sizeOf3
 v3:=Tryz.zeroValue3
 t4:=Tryz.underlying4
 a4:=Tryz.isAgg4
 z4:=Tryz.sizeOf4
 v4:=Tryz.zeroValue4
 t22:=Tryz.underlying3
 a22:=Tryz.isAgg3
 z22:=Tryz.sizeOf3
 v22:=Tryz.zeroValue3 }
end Go.Proofs
