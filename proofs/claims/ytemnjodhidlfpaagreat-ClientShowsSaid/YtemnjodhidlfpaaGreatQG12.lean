import Derived.Test.YtemnjodhidlfpaaGreatQG7
import Derived.Test.YtemnjodhidlfpaaGreatQG10
import Derived.Test.YtemnjodhidlfpaaGreatQSxBasB
import Derived.Test.YtemnjodhidlfpaaGreatQG9
import Derived.Test.YtemnjodhidlfpaaGreatQG8
import Derived.Shelf.SlSortCmp.WholeK
import Derived.Shelf.SlicesG.Cmp
import Derived.Test.YtemnjodhidlfpaaGreatProg
import Derived.Test.YtemnjodhidlfpaaGreatQSxRecs
import Derived.Shelf.SlSortCmp.NoneTotal
/- Walks of the slewed clock: what each function does, over the program of this seat. Printed by a program of this session. -/
namespace Go.Proofs.YtemnjodhidlfpaaGreat
open Tryz
open Go Go.Sx Go.RowKit
set_option linter.unusedVariables false
set_option linter.unusedSimpArgs false
set_option maxRecDepth 4000
set_option maxHeartbeats 1000000

theorem zMr (x y:Int) (w0:World):Calls Tryz.prog 97 #[zI x,zI y] w0 (zAj w0 (nI (zGw x y))):=by
 refine zG (F0:=[(0,zI x),(1,zI y)]) func97 rfl rfl rfl (.c (.c .n)) (Mem.nil _) ?_
 refine go 6 [] [9,0,1] .n ?_
 intro a w hs;refine zW (b:=decide ((min x y) < 1)) (fun c_1=>?_) (fun c_1=>?_)
 ·
  rw [c_1] at hs
  replace c_1:=of_decide_eq_true c_1
  revert a w hs
  refine go 7 [] [4] .n ?_
  intro a w hs;exact fin hs rfl rfl ⟨congrArg (fun n:Nat=>Value.int .i64 (n:Int)) (zU8 (by omega)).symm,rfl⟩
 rw [c_1] at hs
 replace c_1:=of_decide_eq_false c_1
 revert a w hs
 refine go 5 [] [14] .n ?_
 refine ifG rfl (fun c_2=>?_) (fun c_2=>?_)
 ·
  refine go 1 [] [4] .n ?_
  intro a w hs;exact fin hs rfl rfl ⟨congrArg (fun n:Nat=>Value.int .i64 (n:Int)) (zU8 (by omega)).symm,rfl⟩
 refine go 1 [] [4] .n ?_
 intro a w hs;exact fin hs rfl rfl ⟨congrArg (fun n:Nat=>Value.int .i64 (n:Int)) (zZZ (by assumption) (by assumption)).symm,rfl⟩
theorem zMn (x n d:Int) (hx : -9223372036854775808 ≤ x ∧ x ≤ 9223372036854775807) (w0:World):Calls Tryz.prog 96 #[zI x,zI n,zI d] w0 (zAj w0 (.tuple #[zI (bif zGw n d == 0 then zDx x n d else 0),nI (zGw n d)])):=by
 refine zG (F0:=[(0,zI x),(1,zI n),(2,zI d)]) func96 rfl rfl rfl (.c (.c (.c .n))) (Mem.nil _) ?_
 refine go 4 [] [14,13,0,1,2] .n ?_
 intro a w hs;refine zB (v:=nI (zGw n d)) hs (.c rfl (.c rfl .n)) call97 (zMr n d _) rfl ?_
 refine goL 3 [] [17,8,0,1,2] .n ?_
 refine ifG rfl (fun c_1=>?_) (fun c_1=>?_)
 ·
  have hbad:=zHV (by assumption)
  refine go 3 [] [7,6] .n ?_
  intro a w hs;exact zBO hs rfl rfl rfl ⟨zYA hbad _,rfl⟩
 have hc0:=zCo (by assumption)
 have hc1:=zJO hc0
 refine go 2 [] [21,1,2] .n ?_
 intro a w hs;refine zAY hs rfl underlying2 underlying167 rfl ?_
 refine goL 1 [] [23,22,2] .n ?_
 intro a w hs;refine zAY hs rfl underlying2 underlying167 rfl ?_
 intro a w hs;refine zB (v:=.tuple #[qI (mHi (BitVec.ofInt 64 (max 0 x)) (BitVec.ofInt 64 n)),qI ((BitVec.ofInt 64 (max 0 x)) * (BitVec.ofInt 64 n))]) hs (.c rfl (.c rfl .n)) call135 (zJE (BitVec.ofInt 64 (max 0 x)) (BitVec.ofInt 64 n) _) rfl ?_
 refine goL 7 [] [29,28,10,9,2] .n ?_
 intro a w hs;refine zAY hs rfl underlying2 underlying167 rfl ?_
 refine goL 1 [] [31,10,9,2] .n ?_
 refine ifG rfl (fun c_2=>?_) (fun c_2=>?_)
 ·
  refine go 2 [] [7,6] .n ?_
  intro a w hs;exact zBO hs rfl rfl rfl ⟨zNO hc0 (zS1 (by omega) hc0 (by assumption)),rfl⟩
 refine go 3 [] [35,34,33] .n ?_
 intro a w hs;refine zAY hs rfl underlying2 underlying167 rfl ?_
 intro a w hs;refine zB (v:=.tuple #[qI (dQ (mHi (BitVec.ofInt 64 (max 0 x)) (BitVec.ofInt 64 n)) ((BitVec.ofInt 64 (max 0 x)) * (BitVec.ofInt 64 n)) (BitVec.ofInt 64 d)),qI (dR (mHi (BitVec.ofInt 64 (max 0 x)) (BitVec.ofInt 64 n)) ((BitVec.ofInt 64 (max 0 x)) * (BitVec.ofInt 64 n)) (BitVec.ofInt 64 d))]) hs (.c rfl (.c rfl (.c rfl .n))) call136 (zMt (mHi (BitVec.ofInt 64 (max 0 x)) (BitVec.ofInt 64 n)) ((BitVec.ofInt 64 (max 0 x)) * (BitVec.ofInt 64 n)) (BitVec.ofInt 64 d) (by omega) _) rfl ?_
 refine goL 6 [] [40] .n ?_
 intro a w hs;refine zWM hs rfl rfl rfl ?_
 intro a w hs;rw [zMN] at hs;have hmu:=zNY (dQ (mHi (BitVec.ofInt 64 (max 0 x)) (BitVec.ofInt 64 n)) ((BitVec.ofInt 64 (max 0 x)) * (BitVec.ofInt 64 n)) (BitVec.ofInt 64 d))
 refine zAO (X:=zZy (dQ (mHi (BitVec.ofInt 64 (max 0 x)) (BitVec.ofInt 64 n)) ((BitVec.ofInt 64 (max 0 x)) * (BitVec.ofInt 64 n)) (BitVec.ofInt 64 d))) hs rfl rfl underlying167 underlying2 rfl ?_
 refine goL 3 [] [7,6] .n ⟨(by omega),?_⟩
 intro a w hs;exact zBO hs rfl rfl rfl ⟨zNO hc0 (zWQ (by omega) hc0 (by assumption)),rfl⟩
theorem zQw (x n d:Int) (hx : -9223372036854775808 ≤ x ∧ x ≤ 9223372036854775807) (hc:zGw n d = 0) (w0:World):Calls Tryz.prog 96 #[zI x,zI n,zI d] w0 (zAj w0 (.tuple #[zI (zDx x n d),zI 0])):=by
 have h:=zMn x n d hx w0
 rw [hc] at h
 exact h
theorem zZg (g:Nat) (n d s t b k x:Int) (hs : -9223372036854775808 ≤ s ∧ s ≤ 9223372036854775807) (ht : -9223372036854775808 ≤ t ∧ t ≤ 9223372036854775807) (hk : -9223372036854775808 ≤ k ∧ k ≤ 9223372036854775807) (hx : -9223372036854775808 ≤ x ∧ x ≤ 9223372036854775807) (hc:zGw n d = 0) (w0:World) (hg:(blk g [zI n,zI d,zI s,zI t,zI b] 178).p w0):Calls Tryz.prog 93 #[pt g 0,.int .i64 k,.int .i64 x] w0 (Ret w0 [g] fun u N=>u = .tuple #[zI (sS n d s t b k x),zI 0] ∧ N = [blk g [zI n,zI d,zI (sS n d s t b k x),zI (sT t b k),zI 1] 178]):=by
 refine zG (F0:=[(0,pt g 0),(1,zI k),(2,zI x)]) func93 rfl rfl rfl (.c (.c (.c .n))) (zAl hg) ?_
 refine goF 32 10 [0] [14,0,1,2] (.c .z .n) ⟨rfl,?_⟩
 intro a w hs;refine zYW (fun a w=>∃ p:Int,∃ q:Int,St 80 [(0,pt g 0),(1,zI k),(2,zI x)] w0 [g] [blk g [zI n,zI d,zI p,zI q,zI b] 178] a w ∧ p = sP b x s ∧ q = sP b k t) ?_ ?_
 ·
  revert a w hs
  refine go 2 [] [15,0,1,2] .n ?_
  refine ifG rfl (fun c_1=>?_) (fun c_1=>?_)
  ·
   refine go 10 [0,0] [0,1,2] (.c .z .n) ⟨rfl,rfl,?_⟩
   intro a w hs;exact ⟨x,k,hs.sub (.c rfl (.c rfl (.c rfl .n))),by unfold sP;first | (rw [if_pos (by assumption)]) | (rw [if_neg (by assumption)]),by unfold sP;first | (rw [if_pos (by assumption)]) | (rw [if_neg (by assumption)])⟩
  refine go 0 [] [0,1,2] .n ?_
  intro a w hs;exact ⟨s,t,hs.sub (.c rfl (.c rfl (.c rfl .n))),by unfold sP;first | (rw [if_pos (by assumption)]) | (rw [if_neg (by assumption)]),by unfold sP;first | (rw [if_pos (by assumption)]) | (rw [if_neg (by assumption)])⟩
 clear hs w a;rintro a w ⟨p,q,hs,hJ2,hJ3⟩
 have hp1:=hJ2;have hq1:=hJ3;have hpr:(-9223372036854775808 ≤ p ∧ p ≤ 9223372036854775807) ∧ (-9223372036854775808 ≤ q ∧ q ≤ 9223372036854775807):=by unfold sP at hp1 hq1;split at hp1 <;> omega
 revert a w hs
 refine go 0 [] [0,1,2] .n ?_
 intro a w hs
 refine zS [.p [] [],.p [] [],.p [1] [],.p [2] [],.p [3] [0],.p [4,0] [],.p [] [],.p [6] [],.p [7] [],.p [8] [0],.v [9,5] (zI (zBP (max k q) q)),.p [] [],.p [11] [],.p [12] [],.p [13] [0],.p [] [],.p [15] [],.p [16] [],.p [17] [0],.v [18,14,10] (.tuple #[zI (zDx (zBP (max k q) q) n d),zI 0]),.p [19] [],.p [20] [],.p [20] [],.p [21] []] [23] hs .n (.c .z .n) (by kernel_rfl) ⟨rfl,rfl,fun _ _ _ _ hm hs K=>zB (v:=zI (zBP (max k q) q)) hs (.c rfl (.c rfl .n)) call77 (zFN (max k q) q (by omega) (by omega) _) rfl (vk K),rfl,rfl,fun _ _ _ _ hm hs K=>zB (v:=.tuple #[zI (zDx (zBP (max k q) q) n d),zI 0]) hs (.c rfl (.c rfl (.c rfl .n))) call96 (zQw (zBP (max k q) q) n d (zB0 _ _) hc _) rfl (vk K),⟨rfl,by kernel_rfl,fun _=>rfl,rfl,rfl,trivial⟩,fun _=>rfl,?_⟩
 refine goE 14 [0,0,0] [8,0,2] (.c .z .n) ⟨rfl,rfl,rfl,?_⟩
 intro a w hs
 refine zS [.p [] [],.p [] [],.p [1] [],.p [2] [],.l [3] [0] [16] [],.p [] [],.p [] [],.p [6] [],.p [7] [],.l [8] [0] [16] [],.p [] [],.v [10,9] (zI (zCr p (zDx (zBP (max k q) q) n d))),.p [11,5] [],.p [12,4] [],.p [0] [],.p [14] [],.s [15,13] [0] [0] []] [] hs (.c .z .n) .n (by kernel_rfl) ⟨rfl,rfl,fun _ _ _ _ hm hs K=>zB (v:=zI (zCr p (zDx (zBP (max k q) q) n d))) hs (.c rfl (.c rfl .n)) call133 (zEO p (zDx (zBP (max k q) q) n d) (by omega) (zWY hc) _) rfl (vk K),rfl,⟨rfl,by kernel_rfl,fun _=>rfl,rfl,rfl,trivial⟩,fun _=>rfl,?_⟩
 refine goE 6 [0] [7,6] (.c .z .n) ⟨rfl,?_⟩
 intro a w hs;exact zBO hs rfl rfl rfl ⟨by rw [hp1,hq1];rfl,by rw [hp1,hq1];rfl⟩
theorem zTs (n d:Int) (hc:zGw n d = 0) (w0:World):Calls Tryz.prog 56 #[.int .i64 n,.int .i64 d] w0 (Ret w0 [] fun u N=>∃ r,u = .tuple #[pt r 0,.int .i64 0] ∧ N = [blk r [zI n,zI d,zI 0,zI 0,zI 0] 178]):=by
 refine zG (F0:=[(0,zI n),(1,zI d)]) func56 rfl rfl rfl (.c (.c .n)) (Mem.nil _) ?_
 refine go 4 [] [8,7,0,1] .n ?_
 intro a w hs;refine zB (v:=nI (zGw n d)) hs (.c rfl (.c rfl .n)) call97 (zMr n d _) rfl ?_
 refine goL 3 [] [11,6,0,1] .n ?_
 refine ifG rfl (fun c_1=>?_) (fun c_1=>?_)
 ·
  exfalso;omega
 refine go 6 [0] [5,4] .n (fun g2=>?_)
 intro a w hs;exact zBO hs rfl rfl rfl ⟨_,rfl,rfl⟩
end Go.Proofs.YtemnjodhidlfpaaGreat
/- Walks of the delay: what each function does, over the program of this seat. Printed by a program of this session. -/
namespace Go.Proofs.YtemnjodhidlfpaaGreat
open Tryz
open Go Go.Sx Go.RowKit
set_option linter.unusedVariables false
set_option linter.unusedSimpArgs false
set_option maxRecDepth 4000
set_option maxHeartbeats 1000000

theorem zWO (c:zAL) (w0:World):Calls Tryz.prog 134 #[.agg #[zI c.ring,zI c.window,zI c.base,zI c.gain,zI c.least,zI c.most,zI c.slack,zI c.num,zI c.den,zI c.extra,.bool (c.curve)]] w0 (zAj w0 (.agg #[zI c.base,zI 2305843009213693952,zI c.least,zI 2305843009213693952,zI c.most,zI 2305843009213693952,zI c.slack,zI 2305843009213693952,zI c.gain,zI 68719476736])):=by
 refine zG (F0:=[(0,.agg #[zI c.ring,zI c.window,zI c.base,zI c.gain,zI c.least,zI c.most,zI c.slack,zI c.num,zI c.den,zI c.extra,.bool (c.curve)])]) func134 rfl rfl rfl (.c .n) (Mem.nil _) ?_
 refine go 19 [0,1,1,1,1,1,0] [2] .n (fun g1=>fun g2=>⟨rfl,rfl,rfl,rfl,rfl,rfl,?_⟩)
 intro a w hs;exact zLe hs rfl rfl .z (.z (.c (.c (.c (.c (.c (.c (.c (.c (.c (.c .n))))))))))) isAgg229 sizeOf229 (.c (.s .z) (.c .z .n)) ⟨rfl,rfl⟩
theorem zMQ (c:zAL) (w0:World):Calls Tryz.prog 95 #[.agg #[zI c.ring,zI c.window,zI c.base,zI c.gain,zI c.least,zI c.most,zI c.slack,zI c.num,zI c.den,zI c.extra,.bool (c.curve)]] w0 (zAj w0 (nI (zG4 c))):=by
 refine zG (F0:=[(0,.agg #[zI c.ring,zI c.window,zI c.base,zI c.gain,zI c.least,zI c.most,zI c.slack,zI c.num,zI c.den,zI c.extra,.bool (c.curve)])]) func95 rfl rfl rfl (.c .n) (Mem.nil _) ?_
 refine go 3 [0,0] [5,1] .n (fun g1=>⟨rfl,?_⟩)
 intro a w hs;refine zB (v:=.agg #[zI c.base,zI 2305843009213693952,zI c.least,zI 2305843009213693952,zI c.most,zI 2305843009213693952,zI c.slack,zI 2305843009213693952,zI c.gain,zI 68719476736]) hs (.c rfl .n) call134 (zWO c _) rfl ?_
 refine goL 1 [] [7,6,1] .n ?_
 intro a w hs;refine zCt 5 ?_
 revert a w hs
 refine go 9 [0,0] [13,4,7,6,1] .n (fun g2=>⟨rfl,rfl,?_⟩)
 intro a w hs;refine zW (b:=decide (c.base < 0)) (fun c_3=>?_) (fun c_3=>?_)
 ·
  rw [c_3] at hs
  replace c_3:=of_decide_eq_true c_3
  revert a w hs
  refine go 8 [] [2] .n ?_
  refine cl (·.drop (.c (.s .z) (.c .z .n))) ?_
  intro a w hs;exact fin hs rfl rfl ⟨congrArg (fun n:Nat=>Value.int .i64 (n:Int)) (zFG (by unfold zJL;omega)),rfl⟩
 rw [c_3] at hs
 replace c_3:=of_decide_eq_false c_3
 revert a w hs
 refine go 6 [0,0] [19,7,6,1] (.c .z .n) ⟨rfl,rfl,?_⟩
 refine ifG rfl (fun c_4=>?_) (fun c_4=>?_)
 ·
  refine go 1 [] [2] .n ?_
  refine cl (·.drop (.c (.s .z) (.c .z .n))) ?_
  intro a w hs;exact fin hs rfl rfl ⟨congrArg (fun n:Nat=>Value.int .i64 (n:Int)) (zFG (by unfold zJL;omega)),rfl⟩
 refine go 2 [] [7,6,1] .n ⟨by decide,?_⟩
 intro a w hs;refine zAa ?_
 revert a w hs
 refine go 9 [0,0] [13,4,7,6,1] .n (fun g5=>⟨rfl,rfl,?_⟩)
 intro a w hs;refine zW (b:=decide (c.least < 0)) (fun c_6=>?_) (fun c_6=>?_)
 ·
  rw [c_6] at hs
  replace c_6:=of_decide_eq_true c_6
  revert a w hs
  refine go 8 [] [2] .n ?_
  refine cl (·.drop (.c (.s (.s .z)) (.c (.s .z) (.c .z .n)))) ?_
  intro a w hs;exact fin hs rfl rfl ⟨congrArg (fun n:Nat=>Value.int .i64 (n:Int)) (zFG (by unfold zJL;omega)),rfl⟩
 rw [c_6] at hs
 replace c_6:=of_decide_eq_false c_6
 revert a w hs
 refine go 6 [0,0] [19,7,6,1] (.c .z .n) ⟨rfl,rfl,?_⟩
 refine ifG rfl (fun c_7=>?_) (fun c_7=>?_)
 ·
  refine go 1 [] [2] .n ?_
  refine cl (·.drop (.c (.s (.s .z)) (.c (.s .z) (.c .z .n)))) ?_
  intro a w hs;exact fin hs rfl rfl ⟨congrArg (fun n:Nat=>Value.int .i64 (n:Int)) (zFG (by unfold zJL;omega)),rfl⟩
 refine go 2 [] [7,6,1] .n ⟨by decide,?_⟩
 intro a w hs;refine zAa ?_
 revert a w hs
 refine go 9 [0,0] [13,4,7,6,1] .n (fun g8=>⟨rfl,rfl,?_⟩)
 intro a w hs;refine zW (b:=decide (c.most < 0)) (fun c_9=>?_) (fun c_9=>?_)
 ·
  rw [c_9] at hs
  replace c_9:=of_decide_eq_true c_9
  revert a w hs
  refine go 8 [] [2] .n ?_
  refine cl (·.drop (.c (.s (.s (.s .z))) (.c (.s (.s .z)) (.c (.s .z) (.c .z .n))))) ?_
  intro a w hs;exact fin hs rfl rfl ⟨congrArg (fun n:Nat=>Value.int .i64 (n:Int)) (zFG (by unfold zJL;omega)),rfl⟩
 rw [c_9] at hs
 replace c_9:=of_decide_eq_false c_9
 revert a w hs
 refine go 6 [0,0] [19,7,6,1] (.c .z .n) ⟨rfl,rfl,?_⟩
 refine ifG rfl (fun c_10=>?_) (fun c_10=>?_)
 ·
  refine go 1 [] [2] .n ?_
  refine cl (·.drop (.c (.s (.s (.s .z))) (.c (.s (.s .z)) (.c (.s .z) (.c .z .n))))) ?_
  intro a w hs;exact fin hs rfl rfl ⟨congrArg (fun n:Nat=>Value.int .i64 (n:Int)) (zFG (by unfold zJL;omega)),rfl⟩
 refine go 2 [] [7,6,1] .n ⟨by decide,?_⟩
 intro a w hs;refine zAa ?_
 revert a w hs
 refine go 9 [0,0] [13,4,7,6,1] .n (fun g11=>⟨rfl,rfl,?_⟩)
 intro a w hs;refine zW (b:=decide (c.slack < 0)) (fun c_12=>?_) (fun c_12=>?_)
 ·
  rw [c_12] at hs
  replace c_12:=of_decide_eq_true c_12
  revert a w hs
  refine go 8 [] [2] .n ?_
  refine cl (·.drop (.c (.s (.s (.s (.s .z)))) (.c (.s (.s (.s .z))) (.c (.s (.s .z)) (.c (.s .z) (.c .z .n)))))) ?_
  intro a w hs;exact fin hs rfl rfl ⟨congrArg (fun n:Nat=>Value.int .i64 (n:Int)) (zFG (by unfold zJL;omega)),rfl⟩
 rw [c_12] at hs
 replace c_12:=of_decide_eq_false c_12
 revert a w hs
 refine go 6 [0,0] [19,7,6,1] (.c .z .n) ⟨rfl,rfl,?_⟩
 refine ifG rfl (fun c_13=>?_) (fun c_13=>?_)
 ·
  refine go 1 [] [2] .n ?_
  refine cl (·.drop (.c (.s (.s (.s (.s .z)))) (.c (.s (.s (.s .z))) (.c (.s (.s .z)) (.c (.s .z) (.c .z .n)))))) ?_
  intro a w hs;exact fin hs rfl rfl ⟨congrArg (fun n:Nat=>Value.int .i64 (n:Int)) (zFG (by unfold zJL;omega)),rfl⟩
 refine go 2 [] [7,6,1] .n ⟨by decide,?_⟩
 intro a w hs;refine zAa ?_
 revert a w hs
 refine go 9 [0,0] [13,4,7,6,1] .n (fun g14=>⟨rfl,rfl,?_⟩)
 intro a w hs;refine zW (b:=decide (c.gain < 0)) (fun c_15=>?_) (fun c_15=>?_)
 ·
  rw [c_15] at hs
  replace c_15:=of_decide_eq_true c_15
  revert a w hs
  refine go 8 [] [2] .n ?_
  refine cl (·.drop (.c (.s (.s (.s (.s (.s .z))))) (.c (.s (.s (.s (.s .z)))) (.c (.s (.s (.s .z))) (.c (.s (.s .z)) (.c (.s .z) (.c .z .n))))))) ?_
  intro a w hs;exact fin hs rfl rfl ⟨congrArg (fun n:Nat=>Value.int .i64 (n:Int)) (zFG (by unfold zJL;omega)),rfl⟩
 rw [c_15] at hs
 replace c_15:=of_decide_eq_false c_15
 revert a w hs
 refine go 6 [0,0] [19,7,6,1] (.c .z .n) ⟨rfl,rfl,?_⟩
 refine ifG rfl (fun c_16=>?_) (fun c_16=>?_)
 ·
  refine go 1 [] [2] .n ?_
  refine cl (·.drop (.c (.s (.s (.s (.s (.s .z))))) (.c (.s (.s (.s (.s .z)))) (.c (.s (.s (.s .z))) (.c (.s (.s .z)) (.c (.s .z) (.c .z .n))))))) ?_
  intro a w hs;exact fin hs rfl rfl ⟨congrArg (fun n:Nat=>Value.int .i64 (n:Int)) (zFG (by unfold zJL;omega)),rfl⟩
 refine go 2 [] [7,6,1] .n ⟨by decide,?_⟩
 intro a w hs;refine zAa ?_
 revert a w hs
 refine go 7 [0,0] [25] (.c (.s (.s (.s (.s (.s .z))))) .n) ⟨rfl,rfl,?_⟩
 refine ifG rfl (fun c_17=>?_) (fun c_17=>?_)
 ·
  refine go 1 [] [2] .n ?_
  refine cl (·.drop (.c (.s (.s (.s (.s (.s .z))))) (.c (.s (.s (.s (.s .z)))) (.c (.s (.s (.s .z))) (.c (.s (.s .z)) (.c (.s .z) (.c .z .n))))))) ?_
  intro a w hs;exact fin hs rfl rfl ⟨congrArg (fun n:Nat=>Value.int .i64 (n:Int)) (zXx (by unfold zJL;omega) (by omega)),rfl⟩
 refine go 1 [] [2] .n ?_
 refine cl (·.drop (.c (.s (.s (.s (.s (.s .z))))) (.c (.s (.s (.s (.s .z)))) (.c (.s (.s (.s .z))) (.c (.s (.s .z)) (.c (.s .z) (.c .z .n))))))) ?_
 intro a w hs;exact fin hs rfl rfl ⟨congrArg (fun n:Nat=>Value.int .i64 (n:Int)) (zZl (by unfold zJL;omega) (by omega)),rfl⟩
theorem zR4 (c:zAL) (j:Int) (hj : -9223372036854775808 ≤ j ∧ j ≤ 9223372036854775807) (w0:World):Calls Tryz.prog 98 #[.agg #[zI c.ring,zI c.window,zI c.base,zI c.gain,zI c.least,zI c.most,zI c.slack,zI c.num,zI c.den,zI c.extra,.bool (c.curve)],zI j] w0 (zAj w0 (zI (zIY c j))):=by
 refine zG (F0:=[(0,.agg #[zI c.ring,zI c.window,zI c.base,zI c.gain,zI c.least,zI c.most,zI c.slack,zI c.num,zI c.den,zI c.extra,.bool (c.curve)]),(1,zI j)]) func98 rfl rfl rfl (.c (.c .n)) (Mem.nil _) ?_
 refine go 3 [0,0] [5,2,1] .n (fun g1=>⟨rfl,?_⟩)
 intro a w hs;refine zB (v:=nI (zG4 c)) hs (.c rfl .n) call95 (zMQ c _) rfl ?_
 refine goL 1 [] [7,2,1] .n ?_
 refine ifG rfl (fun c_2=>?_) (fun c_2=>?_)
 ·
  refine go 1 [] [4] .n ?_
  refine cl (·.drop (.c .z .n)) ?_
  intro a w hs;exact fin hs rfl rfl ⟨congrArg (Value.int .i64) (zaR (by assumption)),rfl⟩
 have hc1:=zIE (zCo (by assumption))
 refine go 0 [] [2,1] .n ?_
 intro a w hs
 refine zS [.p [] [],.p [0] [0],.p [] [],.p [2] [0],.p [] [],.p [4] [],.v [5,3] (zI (zAt c.gain (max 0 j))),.v [6,1] (zI (zCr c.base (zAt c.gain (max 0 j)))),.p [] [],.p [8] [0],.p [] [],.p [10] [0],.v [11,9,7] (zI (zGk (zCr c.base (zAt c.gain (max 0 j))) c.least c.most)),.p [12] []] [13] hs .n (.c .z .n) (by kernel_rfl) ⟨rfl,rfl,fun _ _ _ _ hm hs K=>zB (v:=zI (zAt c.gain (max 0 j))) hs (.c rfl (.c rfl .n)) call138 (zDI c.gain (max 0 j) (by omega) (by omega) _) rfl (vk K),fun _ _ _ _ hm hs K=>zB (v:=zI (zCr c.base (zAt c.gain (max 0 j)))) hs (.c rfl (.c rfl .n)) call133 (zEO c.base (zAt c.gain (max 0 j)) (by omega) (zCY _ _) _) rfl (vk K),rfl,rfl,fun _ _ _ _ hm hs K=>zB (v:=zI (zGk (zCr c.base (zAt c.gain (max 0 j))) c.least c.most)) hs (.c rfl (.c rfl (.c rfl .n))) call137 (zKi (zCr c.base (zAt c.gain (max 0 j))) c.least c.most _) rfl (vk K),⟨rfl,by kernel_rfl,fun _=>rfl,rfl,rfl,trivial⟩,fun _=>rfl,?_⟩
 refine goE 0 [] [4] .n ?_
 refine cl (·.drop (.c .z .n)) ?_
 intro a w hs;exact fin hs rfl rfl ⟨congrArg (Value.int .i64) (zZU (by assumption)),rfl⟩
theorem zV5 (g:Nat) (c:zAL) (now ch j:Int) (hj : -9223372036854775808 ≤ j ∧ j ≤ 9223372036854775807) (hc:zG4 c = 0) (hn:c.least ≤ now ∧ now ≤ c.most) (w0:World) (hg:(blk g [zI c.ring,zI c.window,zI c.base,zI c.gain,zI c.least,zI c.most,zI c.slack,zI c.num,zI c.den,zI c.extra,.bool (c.curve),zI now,zI ch] 181).p w0):Calls Tryz.prog 81 #[pt g 0,.int .i64 j] w0 (Ret w0 [g] fun u N=>u = zI (zSR c now j) ∧ N = [blk g [zI c.ring,zI c.window,zI c.base,zI c.gain,zI c.least,zI c.most,zI c.slack,zI c.num,zI c.den,zI c.extra,.bool (c.curve),zI (zSR c now j),zI (dCh c now j ch)] 181]):=by
 have hc1:=zIE hc
 have ht:=zJc (j:=j) hc
 refine zG (F0:=[(0,pt g 0),(1,zI j)]) func81 rfl rfl rfl (.c (.c .n)) (zAl hg) ?_
 refine go 9 [0] [12,11,0] (.c .z .n) ⟨rfl,?_⟩
 intro a w hs;refine zB (v:=zI (zIY c j)) hs (.c rfl (.c rfl .n)) call98 (zR4 c j (by omega) _) rfl ?_
 refine goL 1 [] [5,0] .n ?_
 intro a w hs
 refine zS [.p [] [],.p [] [],.p [1] [],.p [2] [],.p [3] [0],.p [4,0] [],.p [] [],.p [6] [],.p [7] [],.p [8] [0],.p [] [],.p [10,9] [],.p [11,5] [],.p [] [],.p [13] [],.p [14] [],.p [15] [],.p [16] [0],.p [17,12] []] [18] hs .n (.c .z .n) (by kernel_rfl) ⟨rfl,(by omega),rfl,(by omega),rfl,⟨rfl,by kernel_rfl,fun _=>rfl,rfl,rfl,trivial⟩,fun _=>rfl,?_⟩
 refine goE 0 [] [32,5,0] .n ?_
 refine ifG rfl (fun c_2=>?_) (fun c_2=>?_)
 ·
  refine go 9 [0,0] [40,37,0] (.c .z .n) ⟨rfl,rfl,?_⟩
  intro a w hs;refine zEn hs rfl rfl rfl ?_
  refine goL 8 [0,0] [4] (.c .z .n) ⟨rfl,rfl,?_⟩
  have hdn:zSR c now j = zIY c j:=if_pos (by assumption);have hdc2:dCh c now j ch = IntKind.i64.wrap (ch + 1):=if_pos (by assumption)
  intro a w hs;exact fin hs rfl rfl ⟨by rw [hdn],by rw [hdn,hdc2]⟩
 refine go 5 [0] [4] (.c .z .n) ⟨rfl,?_⟩
 have hdn:zSR c now j = now:=if_neg (by assumption);have hdc2:dCh c now j ch = ch:=if_neg (by assumption)
 intro a w hs;exact fin hs rfl rfl ⟨by rw [hdn],by rw [hdn,hdc2]⟩
theorem zWT (g:Nat) (c:zAL) (now ch:Int) (w0:World) (hg:(blk g [zI c.ring,zI c.window,zI c.base,zI c.gain,zI c.least,zI c.most,zI c.slack,zI c.num,zI c.den,zI c.extra,.bool (c.curve),zI now,zI ch] 181).p w0):Calls Tryz.prog 92 #[pt g 0] w0 (zAj w0 (.int .i64 now)):=by
 refine zG (F0:=[(0,pt g 0)]) func92 rfl rfl rfl (.c .n) (Mem.nil _) ?_
 refine go 7 [] [7] .n ?_
 intro a w hs;refine zX hs rfl (hs.mem.keep hg (by simp [zO,blk])) (.s (.s (.s (.s (.s (.s (.s (.s (.s (.s (.s .z))))))))))) isAgg2 rfl ?_
 refine goL 1 [] [2] .n ?_
 intro a w hs;exact fin hs rfl rfl ⟨rfl,rfl⟩
theorem zXX (c:zAL) (hc:zG4 c = 0) (w0:World):Calls Tryz.prog 57 #[.agg #[zI c.ring,zI c.window,zI c.base,zI c.gain,zI c.least,zI c.most,zI c.slack,zI c.num,zI c.den,zI c.extra,.bool (c.curve)]] w0 (Ret w0 [] fun u N=>∃ r,u = .tuple #[pt r 0,.int .i64 0] ∧ N = [blk r [zI c.ring,zI c.window,zI c.base,zI c.gain,zI c.least,zI c.most,zI c.slack,zI c.num,zI c.den,zI c.extra,.bool (c.curve),zI (zIY c 0),zI 0] 181]):=by
 refine zG (F0:=[(0,.agg #[zI c.ring,zI c.window,zI c.base,zI c.gain,zI c.least,zI c.most,zI c.slack,zI c.num,zI c.den,zI c.extra,.bool (c.curve)])]) func57 rfl rfl rfl (.c .n) (Mem.nil _) ?_
 refine go 4 [0,0] [5,1] .n (fun g1=>⟨rfl,?_⟩)
 intro a w hs;refine zB (v:=nI (zG4 c)) hs (.c rfl .n) call95 (zMQ c _) rfl ?_
 refine goL 3 [] [8,4,1] .n ?_
 refine ifG rfl (fun c_2=>?_) (fun c_2=>?_)
 ·
  exfalso;omega
 refine go 0 [] [1] .n ?_
 intro a w hs
 refine zAS [.p [] [0],.p [] [0],.v [1] (zI (zIY c 0)),.p [2,0] [],.x [3] ⟨[],[],[],fun vs3=>vs3 4 = pt (zCs (vs3 4)) 0,fun vs3=>[blk (zCs (vs3 4)) [zI c.ring,zI c.window,zI c.base,zI c.gain,zI c.least,zI c.most,zI c.slack,zI c.num,zI c.den,zI c.extra,.bool (c.curve),zI (zIY c 0),zI 0] 181],none⟩,.x [] ⟨[],[],[4],fun vs3=>vs3 5 = pt (zCs (vs3 4)) 0,fun vs3=>[],none⟩,.p [] []] [6] hs .n .n (.c .z .n) (by kernel_rfl) ⟨rfl,rfl,fun _ _ _ _ hm hs K=>zB (v:=zI (zIY c 0)) hs (.c rfl (.c rfl .n)) call98 (zR4 c 0 (by omega) _) rfl (vk K),⟨.n,by kernel_rfl,fun _=>rfl,rfl,rfl⟩,⟨?_,?_,trivial⟩,?_⟩
 ·
  intro a_ w_ R_ rest_ vs3 hm hs ht hx
  have hs0:=hs.bare
  refine zI1 (cs:=[zI c.ring,zI c.window,zI c.base,zI c.gain,zI c.least,zI c.most,zI c.slack,zI c.num,zI c.den,zI c.extra,.bool (c.curve),zI (zIY c 0),zI 0]) hs rfl rfl rfl ?_;clear hs;intro g4 a w hs
  exact wpList_nil ⟨rfl,_,_,hs0,(.c .r),hs,rfl⟩
 ·
  intro a_ w_ R_ rest_ vs3 hm hs ht hx
  have t4:=ht 4 (zK 7 _ (by kernel_rfl))
  have e4:_ = some (vs3 4):=t4.val rfl
  rw [show vs3 4 = pt (zCs (vs3 4)) 0 from t4.2.1] at e4
  replace hs:=hs.learn e4
  have hs0:=hs.bare
  refine zEN hs rfl rfl ?_;clear hs;intro a w hs
  exact wpList_nil ⟨rfl,_,_,hs0,(.c .r),hs,rfl⟩
 clear hs w a;intro vs3 a w hs hf
 obtain ⟨e5,q5⟩:=hf 5 (by decide)
 replace e5:_ = some (vs3 5):=e5.val rfl
 rw [show vs3 5 = pt (zCs (vs3 4)) 0 from q5] at e5
 replace hs:=hs.learn e5;clear e5 q5
 generalize zCs (vs3 4) = g5 at hs
 clear hf
 revert a w hs
 refine goE 0 [] [2,3] .n ?_
 refine cl (·.drop (.c .z .n)) ?_
 intro a w hs;exact zBO hs rfl rfl rfl ⟨_,rfl,rfl⟩
end Go.Proofs.YtemnjodhidlfpaaGreat
/- Walks of jitter: what each function does, over the program of this seat. Printed by a program of this session. -/
namespace Go.Proofs.YtemnjodhidlfpaaGreat
open Tryz
open Go Go.Sx Go.RowKit
set_option linter.unusedVariables false
set_option linter.unusedSimpArgs false
set_option maxRecDepth 4000
set_option maxHeartbeats 1000000

theorem zTX (x y:Int) (hx : -9223372036854775808 ≤ x ∧ x ≤ 9223372036854775807) (hy : -9223372036854775808 ≤ y ∧ y ≤ 9223372036854775807) (w0:World):Calls Tryz.prog 125 #[zI x,zI y] w0 (zAj w0 (zI (zEL x y))):=by
 refine zG (F0:=[(0,zI x),(1,zI y)]) func125 rfl rfl rfl (.c (.c .n)) (Mem.nil _) ?_
 refine go 11 [] [12,9] .n ⟨(by omega),?_⟩
 intro a w hs;refine zRD (m:=4) hs rfl rfl (by decide) rfl ?_
 intro a w hs;rw [zTv] at hs
 revert a w hs
 refine goL 2 [] [4] .n ⟨(by omega),?_⟩
 intro a w hs;exact fin hs rfl rfl ⟨rfl,rfl⟩
theorem zXY (w0:World):Calls Tryz.prog 58 #[] w0 (Ret w0 [] fun u N=>∃ r,u = pt r 0 ∧ N = [blk r [zI 0,zI 0] 183]):=by
 refine zG (F0:=[]) func58 rfl rfl rfl .n (Mem.nil _) ?_
 refine go 4 [0] [0] .n (fun g1=>?_)
 intro a w hs;exact fin hs rfl rfl ⟨_,rfl,rfl⟩
theorem zV1 (g:Nat) (j c:Int) (w0:World) (hg:(blk g [zI j,zI c] 183).p w0):Calls Tryz.prog 82 #[pt g 0] w0 (zAj w0 (.int .i64 j)):=by
 refine zG (F0:=[(0,pt g 0)]) func82 rfl rfl rfl (.c .n) (Mem.nil _) ?_
 refine go 7 [] [7] .n ?_
 intro a w hs;refine zX hs rfl (hs.mem.keep hg (by simp [zO,blk])) .z isAgg2 rfl ?_
 refine goL 1 [] [2] .n ?_
 intro a w hs;exact fin hs rfl rfl ⟨rfl,rfl⟩
theorem zSc (g b:Nat) (j c:Int) (hgb:b ≠ g) (w0:World) (hb:(blk b [pt g 0] 117).p w0) (hg:(blk g [zI j,zI c] 183).p w0):CallsD Tryz.prog 124 #[pt b 0] .returning w0 fun e u' w'=>u' = .returning ∧ Ret w0 [g] (fun u N=>N = [blk g [zI j,zI (IntKind.i64.wrap (c + 1))] 183]) e w':=by
 refine zWN (F0:=[(0,pt b 0)]) func124 rfl rfl rfl (.c .n) (zAl hg) ?_
 refine go 0 [] [0] .n ?_
 intro a w hs;refine zX hs rfl (hs.mem.keep hb (by simpa [zO,blk] using hgb)) .z isAgg117 rfl ?_
 refine goL 3 [0] [4,1] (.c .z .n) ⟨rfl,?_⟩
 intro a w hs;refine zEn hs rfl rfl rfl ?_
 refine goL 3 [0] [] (.c .z .n) ⟨rfl,?_⟩
 intro a w hs;exact zIP hs rfl rfl
theorem zVk (g:Nat) (j c x:Int) (hj : -9223372036854775808 ≤ j ∧ j ≤ 9223372036854775807) (hx : -9223372036854775808 ≤ x ∧ x ≤ 9223372036854775807) (w0:World) (hg:(blk g [zI j,zI c] 183).p w0):Calls Tryz.prog 80 #[pt g 0,.int .i64 x] w0 (Ret w0 [g] fun u N=>u = .int .i64 0 ∧ N = [blk g [zI (zEL j x),zI (IntKind.i64.wrap (c + 1))] 183]):=by
 refine zY1 (F0:=[(0,pt g 0),(1,zI x)]) func80 rfl rfl rfl (.c (.c .n)) (zAl hg) fun a w hs=>?_
 refine wp_seq_k fun K1 hK2=>?_
 refine wp_region_lit ?_
 refine zI1 (cs:=[pt g 0]) hs rfl rfl rfl ?_;clear hs w a;intro g3 a w hs
 refine zEN hs rfl rfl ?_;clear hs w a;intro a w hs
 refine wpList_nil ?_
 refine zAr (hK2 _ _ ?_)
 refine wp_seq_k fun K4 hK5=>?_
 refine wp_seq_k fun K6 hK7=>?_
 refine wp_region_lit ?_
 refine zLK hs rfl .z .z isAgg117 rfl ?_;clear hs w a;intro a w hs
 refine zJj hs rfl rfl underlying117 rfl ?_;clear hs w a;intro a w hs
 refine wpList_nil ?_
 refine zAr (hK7 _ _ ?_)
 refine wp_cond_false (hs.ev rfl) ?_
 refine wp_skip ?_
 refine zAr (hK5 _ _ ?_)
 refine wp_seq_k fun K8 hK9=>?_
 refine wp_region_lit ?_
 refine zaF hs .n (.c rfl .n) rfl ?_;clear hs w a;intro a w hs
 refine zUo hs rfl (wpList_nil ?_)
 refine zAr (hK9 _ _ ?_)
 refine wp_seq_k fun K9 hK9=>?_
  
 refine zPV (fun _ _ h=>(by obtain ⟨_,_,h,_⟩:=h;cases h)) [.p [] [0],.p [] [0],.p [1] [],.p [2] [],.l [3] [0] [9] [],.p [] [],.v [5,4] (zI (zEL j x)),.p [0] [],.p [7] [],.s [8,6] [0] [0] []] [] hs (.c (.s .z) .n) (.c .z .n) (by kernel_rfl) ⟨rfl,rfl,rfl,fun _ _ _ _ hm hs K=>zB (v:=zI (zEL j x)) hs (.c rfl (.c rfl .n)) call125 (zTX j x (by omega) (by omega) _) rfl (vk K),rfl,⟨rfl,by kernel_rfl,fun _=>rfl,rfl,rfl,trivial⟩,fun _=>rfl,?_⟩
 intro a w hs;refine zAr (hK9 _ _ ?_)
 refine wp_seq_k fun K8 hK8=>?_
 refine wp_region_lit (zNM (fun _ _ h=>(by obtain ⟨_,_,h,_⟩:=h;cases h)) _ _ _ ?_)
 refine zEN hs rfl rfl ?_;clear hs w a;intro a w hs
 refine wpList_nil ?_
 refine zAr (hK8 _ _ ?_)
 refine wp_ret ?_
 refine zRS hs rfl rfl rfl ((zSc g g3 _ _ ?_ _ (hs.mem.del .z) (hs.mem.del (.s .z))).mono ?_)
 · have hn:=hs.mem.nd;intro he;subst he;simp [zO,blk] at hn
 · rintro e u' w' ⟨rfl,u,N,rfl,rfl,hM⟩
   have hM2:=hs.mem.frame (X:=[blk g [zI (zEL j x),zI c] 183]) (.c (.s .z) .n) hM
   exact ⟨rfl,⟨_,rfl⟩,_,_,rfl,⟨rfl,rfl⟩,hM2.drop (.c (.s .z) .n)⟩
end Go.Proofs.YtemnjodhidlfpaaGreat
/- Walks of the window: what each function does, over the program of this seat. Printed by a program of this session. -/
namespace Go.Proofs.YtemnjodhidlfpaaGreat
open Tryz
open Go Go.Sx Go.RowKit
set_option linter.unusedVariables false
set_option linter.unusedSimpArgs false
set_option maxRecDepth 4000
set_option maxHeartbeats 1000000

theorem zVZ (x y:Int) (w0:World):Calls Tryz.prog 121 #[zI x,zI y] w0 (zAj w0 (.bool (decide (y < x)))):=by
 refine zG (F0:=[(0,zI x),(1,zI y)]) func121 rfl rfl rfl (.c (.c .n)) (Mem.nil _) ?_
 refine go 5 [] [4] .n ?_
 intro a w hs;exact fin hs rfl rfl ⟨rfl,rfl⟩
theorem zVA (x y:Int) (w0:World):Calls Tryz.prog 122 #[zI x,zI y] w0 (zAj w0 (.bool (decide (x < y)))):=by
 refine zG (F0:=[(0,zI x),(1,zI y)]) func122 rfl rfl rfl (.c (.c .n)) (Mem.nil _) ?_
 refine go 5 [] [4] .n ?_
 intro a w hs;exact fin hs rfl rfl ⟨rfl,rfl⟩
theorem zXR (c:Int) (h:1 ≤ c ∧ c ≤ 64) (w0:World):Calls Tryz.prog 55 #[.int .i64 c] w0 (Ret w0 [] fun u N=>∃ r,u = .tuple #[pt r 0,.int .i64 0] ∧ N = [blk r [zI c,.slice none 0 0,.slice none 0 0,.slice none 0 0] 176]):=by
 refine zG (F0:=[(0,zI c)]) func55 rfl rfl rfl (.c .n) (Mem.nil _) ?_
 refine go 5 [] [6,0] .n ?_
 intro a w hs;refine zW (b:=decide (c < 1)) (fun c_1=>?_) (fun c_1=>?_)
 ·
  rw [c_1] at hs
  replace c_1:=of_decide_eq_true c_1
  revert a w hs
  refine go 6 [] [3,2] .n ?_
  exfalso;omega
 rw [c_1] at hs
 replace c_1:=of_decide_eq_false c_1
 revert a w hs
 refine go 3 [] [9,0] .n ?_
 refine ifG rfl (fun c_2=>?_) (fun c_2=>?_)
 ·
  refine go 2 [] [3,2] .n ?_
  exfalso;omega
 refine go 5 [0] [3,2] .n (fun g3=>?_)
 intro a w hs;exact zBO hs rfl rfl rfl ⟨_,rfl,rfl⟩
theorem zQG (l:List Int) (v:Value) (w0:World) (hb:Rd w0 [] v 1 l.length (iV l)):Calls Tryz.prog 123 #[v] w0 (zAj w0 (.tuple #[zI (l.getD 0 0),.bool (decide (0 < l.length))])):=by
 refine zG (F0:=[(0,v)]) func123 rfl rfl rfl (.c .n) (Mem.nil _) ?_
 refine go 3 [] [4,2,0] .n ?_
 intro a w hs;refine zAD hs rfl (hs.rd0 hb).isSl underlying40 rfl ?_
 refine goL 1 [] [6,2,0] .n ?_
 refine ifG rfl (fun c_1=>?_) (fun c_1=>?_)
 ·
  refine go 3 [] [3,2] .n ?_
  intro a w hs;exact zBO hs rfl rfl rfl ⟨zPA (by assumption),rfl⟩
 refine go 1 [] [8] .n ?_
 intro a w hs;refine zAy (j:=0) hs rfl rfl (hs.rd0 hb) (by decide) (by omega) underlying40 sizeOf2 rfl ?_
 intro a w hs;refine zBS (u:=zI (l.getD 0 0)) hs rfl (hs.rd0 hb) (zIJ l 0 (by omega)) isAgg2 rfl ?_
 refine goL 2 [] [3,2] .n ?_
 intro a w hs;exact zBO hs rfl rfl rfl ⟨zOn (by assumption),rfl⟩
theorem zLS (g:Nat) (c:Int) (v1 v2 v3:Value) (l:List Int) (w0:World) (hg:(blk g [zI c,v1,v2,v3] 176).p w0) (hb:Rd w0 [] v2 1 l.length (iV l)):Calls Tryz.prog 79 #[pt g 0] w0 (zAj w0 (.tuple #[zI (l.getD 0 0),.bool (decide (0 < l.length))])):=by
 refine zG (F0:=[(0,pt g 0)]) func79 rfl rfl rfl (.c .n) (Mem.nil _) ?_
 refine go 8 [] [9] .n ?_
 intro a w hs;refine zX hs rfl (hs.mem.keep hg (by simp [zO,blk])) (.s (.s .z)) isAgg40 rfl ?_
 intro a w hs;refine zB (v:=.tuple #[zI (l.getD 0 0),.bool (decide (0 < l.length))]) hs (.c rfl .n) call123 (zQG _ _ _ (hs.rd0 hb)) rfl ?_
 refine goL 4 [] [3,2] .n ?_
 intro a w hs;exact zBO hs rfl rfl rfl ⟨rfl,rfl⟩
theorem zMj (l:List Int) (v:Value) (x:Int) (hl:0 < l.length) (w0:World) (hb:Rd w0 [] v 1 l.length (iV l)):Calls Tryz.prog 119 #[v,.int .i64 x] w0 (zAj w0 (zDC v l x)):=by
 refine zG (F0:=[(0,v),(1,zI x)]) func119 rfl rfl rfl (.c (.c .n)) (Mem.nil _) ?_
 refine go 2 [] [5,0,1] .n ?_
 intro a w hs;refine zAy (j:=0) hs rfl rfl (hs.rd0 hb) (by decide) (by omega) underlying40 sizeOf2 rfl ?_
 intro a w hs;refine zBS (u:=zI (l.getD 0 0)) hs rfl (hs.rd0 hb) (zIJ l 0 (by omega)) isAgg2 rfl ?_
 refine goL 2 [] [9,0] .n ?_
 refine ifG rfl (fun c_1=>?_) (fun c_1=>?_)
 ·
  refine go 1 [] [10] .n ?_
  intro a w hs;refine zIK (j:=1) hs rfl rfl (by decide) (hs.rd0 hb).isSl (by omega) underlying40 sizeOf2 rfl ?_
  refine goL 1 [] [4] .n ?_
  intro a w hs;exact fin hs rfl rfl ⟨zT2 (by assumption),rfl⟩
 refine go 2 [] [4] .n ?_
 intro a w hs;exact fin hs rfl rfl ⟨zUF (by assumption),rfl⟩
theorem zHQ (f:FuncId) (F:Int → Int → Bool) (hcl:∀ args w,(callFunc f args).run Tryz.prog w = .ok (.enter f args) w) (hf:∀ p q w0,Calls Tryz.prog f #[.int .i64 p,.int .i64 q] w0 (zAj w0 (.bool (F p q)))) (l:List Int) (v:Value) (x:Int) (hl:l.length ≤ 64) (w0:World) (hr:(rwo v 2 (iV l)).p w0):Calls Tryz.prog 120 #[v,.int .i64 x,.func (.func f) #[] #[]] w0 (Ret w0 (zO [rwo v 2 (iV l)]) fun u N=>N = [rwo u 2 (iV (zDh F l x))]):=by
 refine zG (F0:=[(0,v),(1,zI x),(2,.func (.func f) #[] #[])]) func120 rfl rfl rfl (.c (.c (.c .n))) (zWJ hr) ?_
 refine go 1 [] [0,1,2] .n ?_
 refine cl (·.rerwo .z (show iV l = iV (l.take l.length) by rw [List.take_length])) ?_
 intro a w hs;refine zCL (fun mm_ a w=>∃ k:Nat,∃ r:Value,mm_ = 1 + k ∧ St 30 [(0,r),(1,zI x),(2,.func (.func f) #[] #[])] w0 (zO [rwo v 2 (iV l)]) [rwo r 2 (iV (l.take k))] a w ∧ k ≤ l.length ∧ zJG F l x k = zJG F l x l.length) ⟨l.length,v,rfl,hs.sub (.c rfl (.c rfl (.c rfl .n))),by omega,rfl⟩ ?_
 clear hs w a;rintro mm_ a w ⟨k,r,rfl,hs,hI1_0,hI1_1⟩
 revert a w hs
 refine go 1 [] [7,0,1,2] .n ?_
 intro a w hs;refine zAD hs rfl (zAw (hs.mem.del .z) (List.length_take_of_le (by omega))).isSl underlying40 rfl ?_
 refine goL 2 [] [10,0,1,2] .n ?_
 intro a w hs;refine zW (b:=decide (0 < (k:Int))) (fun c_1=>?_) (fun c_1=>?_)
 ·
  rw [c_1] at hs
  replace c_1:=of_decide_eq_true c_1
  revert a w hs
  refine go 3 [] [13,12,11,10,0,1,2] .n ?_
  intro a w hs;refine zF hs rfl rfl rfl ?_
  refine zAD hs rfl (zAw (hs.mem.del .z) (List.length_take_of_le (by omega))).isSl underlying40 rfl ?_
  refine goL 1 [] [15,12,11,10,0,1,2] .n ⟨(by omega),?_⟩
  have hv_:((k:Int) - 1:Int) = (((k - 1:Nat):Int):Int):=by omega
  intro a w hs;rw [hv_] at hs;clear hv_
  refine zF hs rfl rfl rfl ?_
  refine zAy (j:=(k - 1)) hs rfl rfl (zAw (hs.mem.del .z) (List.length_take_of_le (by omega))) rfl (by omega) underlying40 sizeOf2 rfl ?_
  intro a w hs;refine zF hs rfl rfl rfl ?_
  refine zBS (u:=zI (l.getD (k - 1) 0)) hs rfl (zAw (hs.mem.del .z) (List.length_take_of_le (by omega))) (zVm l k (k - 1) (by omega) (by omega)) isAgg2 rfl ?_
  refine goL 1 [] [18,17,11,10,0,1,2] .n ?_
  intro a w hs;refine zF hs rfl rfl rfl ?_
  refine zBb (us:=[]) (v:=.bool (F (l.getD (k - 1) 0) x)) hs rfl (.c rfl (.c rfl .n)) rfl hcl (hf _ _ _) rfl ?_
  refine goL 1 [] [20,0,1,2] .n ?_
  refine zYz rfl (fun c_2=>?_) (fun c_2=>?_)
  ·
   refine go 2 [] [22,21,1,2] .n ?_
   intro a w hs;refine zAD hs rfl (zAw (hs.mem.del .z) (List.length_take_of_le (by omega))).isSl underlying40 rfl ?_
   refine goL 1 [] [24,21,1,2] .n ⟨(by omega),?_⟩
   have hv_:((k:Int) - 1:Int) = (((k - 1:Nat):Int):Int):=by omega
   intro a w hs;rw [hv_] at hs;clear hv_
   refine zMV (j:=(k - 1)) hs rfl rfl rfl (zAw (hs.mem.del .z) (List.length_take_of_le (by omega))) (by omega) underlying40 sizeOf2 rfl ?_
   refine goL 1 [] [0,1,2] .n ?_
   refine cl (·.rwoPop .z (by omega) (by omega)) ?_
   intro a w hs;refine ⟨_,?_,(k - 1),(zFa r 1 0 (k - 1)),rfl,hs.sub (.c rfl (.c rfl (.c rfl .n))),by omega,zPF hI1_1 (by omega) (by assumption)⟩
   omega
  refine go 3 [] [28,26] .n (fun g3=>?_)
  intro a w hs;refine zJW (u:=zI x) (bytes:=8) hs rfl rfl (.s .z) (zAJ (m:=1) (size:=1) (hs.mem.del .z) rfl (by decide)) rfl underlying40 (i:=Tryz.t2) rfl rfl rfl rfl rfl (by rw [zEF,List.length_take_of_le (by omega)];omega) (by rw [zEF,List.length_take_of_le (by omega)];simp only [maxLen];omega) rfl ?_;intro v4
  refine cl (·.rerwo .z (zJB _ _)) ?_
  refine cl (·.drop (.c (.s .z) .n)) ?_
  refine goL 1 [] [6] .n ?_
  have hk:=zIc hI1_1 (by first | (left;omega) | (right;assumption))
  refine cl (·.rerwo (xs':=iV (zDh F l x)) .z (by rw [zDh,← hk])) ?_
  intro a w hs;exact fin hs rfl rfl rfl
 rw [c_1] at hs
 replace c_1:=of_decide_eq_false c_1
 revert a w hs
 refine go 14 [] [28,26] .n (fun g5=>?_)
 intro a w hs;refine zJW (u:=zI x) (bytes:=8) hs rfl rfl (.s .z) (zAJ (m:=1) (size:=1) (hs.mem.del .z) rfl (by decide)) rfl underlying40 (i:=Tryz.t2) rfl rfl rfl rfl rfl (by rw [zEF,List.length_take_of_le (by omega)];omega) (by rw [zEF,List.length_take_of_le (by omega)];simp only [maxLen];omega) rfl ?_;intro v6
 refine cl (·.rerwo .z (zJB _ _)) ?_
 refine cl (·.drop (.c (.s .z) .n)) ?_
 refine goL 1 [] [6] .n ?_
 have hk:=zIc hI1_1 (by first | (left;omega) | (right;assumption))
 refine cl (·.rerwo (xs':=iV (zDh F l x)) .z (by rw [zDh,← hk])) ?_
 intro a w hs;exact fin hs rfl rfl rfl
theorem zW6 (g:Nat) (c x:Int) (v1 v2 v3:Value) (l1 l2 l3:List Int) (hc:1 ≤ c ∧ c ≤ 64) (h1:(l1.length:Int) ≤ c) (h2:l2.length ≤ l1.length) (h3:l3.length ≤ l1.length) (h0:0 < l1.length → 0 < l2.length ∧ 0 < l3.length) (w0:World) (hM:∀ h ∈ ([blk g [zI c,v1,v2,v3] 176,rwo v1 2 (iV l1),rwo v2 2 (iV l2),rwo v3 2 (iV l3)]:List HA),h.p w0) (hnd:(zO [blk g [zI c,v1,v2,v3] 176,rwo v1 2 (iV l1),rwo v2 2 (iV l2),rwo v3 2 (iV l3)]).Nodup):Calls Tryz.prog 78 #[pt g 0,.int .i64 x] w0 (Ret w0 (zO [blk g [zI c,v1,v2,v3] 176,rwo v1 2 (iV l1),rwo v2 2 (iV l2),rwo v3 2 (iV l3)]) fun u N=>u = .int .i64 0 ∧ ∃ u1 u2 u3,N = [blk g [zI c,u1,u2,u3] 176,rwo u1 2 (iV (zUk c l1 x)),rwo u2 2 (iV (zDh (fun p q=>decide (q < p)) (wD c l1 l2) x)),rwo u3 2 (iV (zDh (fun p q=>decide (p < q)) (wD c l1 l3) x))]):=by
 have hv2:=(zAw (hM (rwo v2 2 (iV l2)) (by simp)) rfl).isSl
 have hv3:=(zAw (hM (rwo v3 2 (iV l3)) (by simp)) rfl).isSl
 refine zG (F0:=[(0,pt g 0),(1,zI x)]) func78 rfl rfl rfl (.c (.c .n)) (Mem.start hM rfl hnd) ?_
 refine go 4 [] [0,1] .n ?_
 intro a w hs
 refine zS [.p [] [],.p [0] [],.p [1] [],.p [2] [0],.v [3] (nI l1.length),.p [] [],.p [5] [],.p [6] [],.p [7] [0],.p [8,4] []] [9] hs .n (.c .z .n) (by kernel_rfl) ⟨rfl,fun _ _ _ _ hm hs K=>zAD hs rfl (zAw (hm.del (.s .z)) rfl).isSl underlying40 rfl (vk K),rfl,⟨rfl,by kernel_rfl,fun _=>rfl,rfl,rfl,trivial⟩,fun _=>rfl,?_⟩
 refine goE 0 [] [16,0,1] .n ?_
 refine ifG rfl (fun c_2=>?_) (fun c_2=>?_)
 ·
  have h00:=h0 (by omega)
  refine go 0 [] [0,1] .n ?_
  intro a w hs
  refine zS (dcs [.p [] [],.p [] [],.p [] [],.p [2] [],.p [3] [],.l [4] [0] [26] [],.p [] [],.p [6] [],.p [7] [],.l [8] [0] [26] [],.v [9] (.pointer (some (adr v1 0))),.v [10] (zI (l1.getD 0 0)),.v [11,5] (zDC v2 l2 (l1.getD 0 0)),.p [] [],.p [13] [],.p [14] [],.l [15] [0] [26] [],.p [] [],.p [17] [],.p [18] [],.l [19] [0] [26] [],.v [20] (.pointer (some (adr v1 0))),.v [21] (zI (l1.getD 0 0)),.v [22,16] (zDC v3 l3 (l1.getD 0 0)),.p [0] [],.p [24] [],.s [25,12] [50] [0] [],.p [1] []] [.p [27] [],.s [28,23] [50] [] [26]]) [] hs (.c .z .n) .n (by kernel_rfl) ⟨rfl,rfl,fun _ _ _ _ hm hs K=>zAy (j:=0) hs rfl rfl (zAw (hm.del .z) rfl) (by decide) (by omega) underlying40 sizeOf2 rfl (vk K),fun _ _ _ _ hm hs K=>zBS (u:=zI (l1.getD 0 0)) hs rfl (zAw (hm.del .z) rfl) (zIJ l1 0 (by omega)) isAgg2 rfl (vk K),fun _ _ _ _ hm hs K=>zB (v:=zDC v2 l2 (l1.getD 0 0)) hs (.c rfl (.c rfl .n)) call119 (zMj _ v2 (l1.getD 0 0) (by omega) _ (zAw (hm.del (.s .z)) rfl)) rfl (vk K),rfl,rfl,fun _ _ _ _ hm hs K=>zAy (j:=0) hs rfl rfl (zAw (hm.del .z) rfl) (by decide) (by omega) underlying40 sizeOf2 rfl (vk K),fun _ _ _ _ hm hs K=>zBS (u:=zI (l1.getD 0 0)) hs rfl (zAw (hm.del .z) rfl) (zIJ l1 0 (by omega)) isAgg2 rfl (vk K),fun _ _ _ _ hm hs K=>zB (v:=zDC v3 l3 (l1.getD 0 0)) hs (.c rfl (.c rfl .n)) call119 (zMj _ v3 (l1.getD 0 0) (by omega) _ (zAw (hm.del (.s (.s .z))) rfl)) rfl (vk K),rfl,(zJ (Exists.choose_spec (zKn l2 (l1.getD 0 0) hv2)).one zAb),rfl,(zJ (Exists.choose_spec (zKn l3 (l1.getD 0 0) hv3)).one zAb),⟨rfl,by kernel_rfl,fun _=>rfl,rfl,rfl,trivial⟩,fun _=>rfl,?_⟩
  refine goE 1 [] [45,0,1] .n ?_
  refine cl (·.rwoDrop (.s .z) (l1.getD 0 0) (by omega)) ?_
  refine cl (·.rwoDrop (.s (.s .z)) (l1.getD 0 0) (by omega)) ?_
  refine go 4 [0] [49,45,0,1] (.c (.s (.s (.s .z))) .n) ⟨rfl,?_⟩
  intro a w hs;refine zIK (j:=1) hs rfl rfl (by decide) (zAw (hs.mem.del (.s (.s (.s .z)))) rfl).isSl (by omega) underlying40 sizeOf2 rfl ?_
  refine goL 2 [] [52,50,0,1] .n ?_
  intro a w hs;refine zBX hs rfl rfl .z (.s .z) ((zAw (hs.mem.del (.s (.s (.s .z)))) rfl).slc (l:=1) (h:=l1.length) (by omega) (by omega)).isSl.one sizeOf40 ?_
  refine goL 1 [] [53,0,1] .n ?_
  refine cl (·.rwoTl (.s (.s (.s .z))) (by omega)) ?_
  have hd1:(l1.drop 1).length = l1.length - 1:=by simp
  have hd2:=zKm l2 (l1.getD 0 0);have hd3:=zKm l3 (l1.getD 0 0)
  refine go 6 [0] [59,57,53,0,1] (.c (.s .z) .n) ⟨rfl,fun g4=>?_⟩
  intro a w hs;refine zJW (u:=zI x) (bytes:=8) hs rfl rfl (.s (.s .z)) (zAJ (m:=1) (size:=1) (hs.mem.del .z) rfl (by decide)) rfl underlying40 (i:=Tryz.t2) rfl rfl rfl rfl rfl (by simp only [zEF];omega) (by simp only [zEF,maxLen];omega) rfl ?_;intro v5
  refine cl (·.rerwo .z (zJB _ _)) ?_
  refine cl (·.drop (.c (.s .z) .n)) ?_
  refine goL 2 [] [62,60,0,1] .n ?_
  intro a w hs;refine zBX hs rfl rfl (.s .z) (.s .z) (zAw (hs.mem.del .z) rfl).isSl.one sizeOf40 ?_
  refine goL 6 [0] [68,67,63,0,1] (.c .z .n) ⟨rfl,?_⟩
  intro a w hs;refine zM hs (.c rfl (.c rfl (.c rfl .n))) call120 (.c (.s (.s (.s .z))) .n) (zHQ 121 (fun p q=>decide (q < p)) call121 (fun p q w=>zVZ p q w) (zJR l2 (l1.getD 0 0)) (zDC v2 l2 (l1.getD 0 0)) x (by omega) _ (hs.mem.del (.s (.s (.s .z))))) rfl ?_;clear hs w a;rintro v6 _ a w rfl hs
  revert a w hs
  refine goL 2 [] [71,69,0,1] .n ?_
  intro a w hs;refine zBX hs rfl rfl (.s .z) (.s (.s .z)) (zAw (hs.mem.del .z) rfl).isSl.one sizeOf40 ?_
  refine goL 6 [0] [77,76,72] (.c .z .n) ⟨rfl,?_⟩
  intro a w hs;refine zM hs (.c rfl (.c rfl (.c rfl .n))) call120 (.c (.s (.s (.s .z))) .n) (zHQ 122 (fun p q=>decide (p < q)) call122 (fun p q w=>zVA p q w) (zJR l3 (l1.getD 0 0)) (zDC v3 l3 (l1.getD 0 0)) x (by omega) _ (hs.mem.del (.s (.s (.s .z))))) rfl ?_;clear hs w a;rintro v7 _ a w rfl hs
  revert a w hs
  refine goL 2 [] [80,78] .n ?_
  intro a w hs;refine zBX hs rfl rfl (.s .z) (.s (.s (.s .z))) (zAw (hs.mem.del .z) rfl).isSl.one sizeOf40 ?_
  refine goL 1 [] [4] .n ?_
  refine cl (·.reorder (.c .z (.c (.s (.s .z)) (.c (.s .z) (.c .z .n))))) ?_
  intro a w hs;exact fin hs rfl rfl ⟨rfl,v5,v6,v7,by have hq:=(by assumption:((l1.length:Nat):Int) = c);simp only [zUk,wD,if_pos hq]⟩
 refine go 1 [] [53,0,1] .n ?_
 refine go 6 [0] [59,57,53,0,1] (.c .z .n) ⟨rfl,fun g8=>?_⟩
 intro a w hs;refine zJW (u:=zI x) (bytes:=8) hs rfl rfl (.s (.s .z)) (zAJ (m:=1) (size:=1) (hs.mem.del .z) rfl (by decide)) rfl underlying40 (i:=Tryz.t2) rfl rfl rfl rfl rfl (by simp only [zEF];omega) (by simp only [zEF,maxLen];omega) rfl ?_;intro v9
 refine cl (·.rerwo .z (zJB _ _)) ?_
 refine cl (·.drop (.c (.s .z) .n)) ?_
 refine goL 2 [] [62,60,0,1] .n ?_
 intro a w hs;refine zBX hs rfl rfl (.s .z) (.s .z) (zAw (hs.mem.del .z) rfl).isSl.one sizeOf40 ?_
 refine goL 6 [0] [68,67,63,0,1] (.c .z .n) ⟨rfl,?_⟩
 intro a w hs;refine zM hs (.c rfl (.c rfl (.c rfl .n))) call120 (.c (.s (.s .z)) .n) (zHQ 121 (fun p q=>decide (q < p)) call121 (fun p q w=>zVZ p q w) l2 v2 x (by omega) _ (hs.mem.del (.s (.s .z)))) rfl ?_;clear hs w a;rintro v10 _ a w rfl hs
 revert a w hs
 refine goL 2 [] [71,69,0,1] .n ?_
 intro a w hs;refine zBX hs rfl rfl (.s .z) (.s (.s .z)) (zAw (hs.mem.del .z) rfl).isSl.one sizeOf40 ?_
 refine goL 6 [0] [77,76,72] (.c .z .n) ⟨rfl,?_⟩
 intro a w hs;refine zM hs (.c rfl (.c rfl (.c rfl .n))) call120 (.c (.s (.s (.s .z))) .n) (zHQ 122 (fun p q=>decide (p < q)) call122 (fun p q w=>zVA p q w) l3 v3 x (by omega) _ (hs.mem.del (.s (.s (.s .z))))) rfl ?_;clear hs w a;rintro v11 _ a w rfl hs
 revert a w hs
 refine goL 2 [] [80,78] .n ?_
 intro a w hs;refine zBX hs rfl rfl (.s .z) (.s (.s (.s .z))) (zAw (hs.mem.del .z) rfl).isSl.one sizeOf40 ?_
 refine goL 1 [] [4] .n ?_
 refine cl (·.reorder (.c .z (.c (.s (.s .z)) (.c (.s .z) (.c .z .n))))) ?_
 intro a w hs;exact fin hs rfl rfl ⟨rfl,v9,v10,v11,by have hq:=(by assumption:((l1.length:Nat):Int) ≠ c);simp only [zUk,wD,if_neg hq]⟩
end Go.Proofs.YtemnjodhidlfpaaGreat
/- Walks of the clock: what each function does, over the program of this seat. Printed by a program of this session. -/
namespace Go.Proofs.YtemnjodhidlfpaaGreat
open Tryz
open Go Go.Sx Go.RowKit
set_option linter.unusedVariables false
set_option linter.unusedSimpArgs false
set_option maxRecDepth 4000
set_option maxHeartbeats 1000000

theorem zL8 (c:zAL) (w0:World):Calls Tryz.prog 54 #[.agg #[zI c.ring,zI c.window,zI c.base,zI c.gain,zI c.least,zI c.most,zI c.slack,zI c.num,zI c.den,zI c.extra,.bool (c.curve)]] w0 (zAj w0 (nI (zCm c))):=by
 refine zG (F0:=[(0,.agg #[zI c.ring,zI c.window,zI c.base,zI c.gain,zI c.least,zI c.most,zI c.slack,zI c.num,zI c.den,zI c.extra,.bool (c.curve)])]) func54 rfl rfl rfl (.c .n) (Mem.nil _) ?_
 refine go 6 [0,0] [9,1] .n (fun g1=>⟨rfl,?_⟩)
 intro a w hs;refine zW (b:=decide (c.ring < 1)) (fun c_2=>?_) (fun c_2=>?_)
 ·
  rw [c_2] at hs
  replace c_2:=of_decide_eq_true c_2
  revert a w hs
  refine go 16 [] [2] .n ?_
  refine cl (·.drop (.c .z .n)) ?_
  intro a w hs;exact fin hs rfl rfl ⟨congrArg (fun n:Nat=>Value.int .i64 (n:Int)) (zNj (by unfold zLY;omega)),rfl⟩
 rw [c_2] at hs
 replace c_2:=of_decide_eq_false c_2
 revert a w hs
 refine go 5 [0] [14,1] (.c .z .n) ⟨rfl,?_⟩
 intro a w hs;refine zW (b:=decide (64 < c.ring)) (fun c_3=>?_) (fun c_3=>?_)
 ·
  rw [c_3] at hs
  replace c_3:=of_decide_eq_true c_3
  revert a w hs
  refine go 11 [] [2] .n ?_
  refine cl (·.drop (.c .z .n)) ?_
  intro a w hs;exact fin hs rfl rfl ⟨congrArg (fun n:Nat=>Value.int .i64 (n:Int)) (zNj (by unfold zLY;omega)),rfl⟩
 rw [c_3] at hs
 replace c_3:=of_decide_eq_false c_3
 revert a w hs
 refine go 5 [0] [19,1] (.c .z .n) ⟨rfl,?_⟩
 intro a w hs;refine zW (b:=decide (c.window < 1)) (fun c_4=>?_) (fun c_4=>?_)
 ·
  rw [c_4] at hs
  replace c_4:=of_decide_eq_true c_4
  revert a w hs
  refine go 6 [] [2] .n ?_
  refine cl (·.drop (.c .z .n)) ?_
  intro a w hs;exact fin hs rfl rfl ⟨congrArg (fun n:Nat=>Value.int .i64 (n:Int)) (zNj (by unfold zLY;omega)),rfl⟩
 rw [c_4] at hs
 replace c_4:=of_decide_eq_false c_4
 revert a w hs
 refine go 4 [0] [23,1] (.c .z .n) ⟨rfl,?_⟩
 refine ifG rfl (fun c_5=>?_) (fun c_5=>?_)
 ·
  refine go 1 [] [2] .n ?_
  refine cl (·.drop (.c .z .n)) ?_
  intro a w hs;exact fin hs rfl rfl ⟨congrArg (fun n:Nat=>Value.int .i64 (n:Int)) (zNj (by unfold zLY;omega)),rfl⟩
 refine go 1 [0] [24,1] (.c .z .n) ⟨rfl,?_⟩
 intro a w hs;refine zB (v:=nI (zG4 c)) hs (.c rfl .n) call95 (zMQ c _) rfl ?_
 refine goL 3 [] [27,3,1] .n ?_
 refine ifG rfl (fun c_6=>?_) (fun c_6=>?_)
 ·
  refine go 2 [] [2] .n ?_
  refine cl (·.drop (.c .z .n)) ?_
  intro a w hs;exact fin hs rfl rfl ⟨congrArg (fun n:Nat=>Value.int .i64 (n:Int)) (zZN (by unfold zLY;omega) (by assumption)),rfl⟩
 refine go 4 [0,0] [33,31,1] (.c .z .n) ⟨rfl,rfl,?_⟩
 intro a w hs;refine zB (v:=.tuple #[zI (bif zGw c.num c.den == 0 then zDx 0 c.num c.den else 0),nI (zGw c.num c.den)]) hs (.c rfl (.c rfl (.c rfl .n))) call96 (zMn 0 c.num c.den (by omega) _) rfl ?_
 refine goL 8 [] [39,1] .n ?_
 intro a w hs;refine zW (b:=!((((zGw c.num c.den:Nat):Int):Int) == 0)) (fun c_7=>?_) (fun c_7=>?_)
 ·
  rw [c_7] at hs
  replace c_7:=zFV c_7
  replace c_7:=zAQ c_7
  revert a w hs
  refine go 11 [] [2] .n ?_
  refine cl (·.drop (.c .z .n)) ?_
  intro a w hs;exact fin hs rfl rfl ⟨congrArg (fun n:Nat=>Value.int .i64 (n:Int)) (zPi (by unfold zLY;omega) (by assumption) (by omega)),rfl⟩
 rw [c_7] at hs
 replace c_7:=zFM c_7
 replace c_7:=eq_of_beq c_7
 revert a w hs
 refine go 5 [0] [44,1] (.c .z .n) ⟨rfl,?_⟩
 intro a w hs;refine zW (b:=decide (c.extra < 0)) (fun c_8=>?_) (fun c_8=>?_)
 ·
  rw [c_8] at hs
  replace c_8:=of_decide_eq_true c_8
  revert a w hs
  refine go 6 [] [2] .n ?_
  refine cl (·.drop (.c .z .n)) ?_
  intro a w hs;exact fin hs rfl rfl ⟨congrArg (fun n:Nat=>Value.int .i64 (n:Int)) (zPi (by unfold zLY;omega) (by assumption) (by omega)),rfl⟩
 rw [c_8] at hs
 replace c_8:=of_decide_eq_false c_8
 revert a w hs
 refine go 4 [0] [48] (.c .z .n) ⟨rfl,?_⟩
 refine ifG rfl (fun c_9=>?_) (fun c_9=>?_)
 ·
  refine go 1 [] [2] .n ?_
  refine cl (·.drop (.c .z .n)) ?_
  intro a w hs;exact fin hs rfl rfl ⟨congrArg (fun n:Nat=>Value.int .i64 (n:Int)) (zPi (by unfold zLY;omega) (by assumption) (by omega)),rfl⟩
 refine go 1 [] [2] .n ?_
 refine cl (·.drop (.c .z .n)) ?_
 intro a w hs;exact fin hs rfl rfl ⟨congrArg (fun n:Nat=>Value.int .i64 (n:Int)) (zZC (by unfold zLY;omega) (by assumption) (by omega)),rfl⟩
end Go.Proofs.YtemnjodhidlfpaaGreat
/- The library's sort and comparison, laid at this program. -/
namespace Go.Proofs
open Go.Shelf
def Tryz.sortE_ren : Go.Shelf.Ren:=⟨fun | 6=>177 | 15=>188 | 14=>187 | 28=>198 | 29=>184 | 20=>190 | 21=>191 | 22=>192 | 23=>193 | 24=>194 | 25=>195 | 26=>196 | 27=>197 | 46=>199 | 47=>200 | 48=>201 | 49=>202 | 50=>203 | 57=>204 | n=>n,fun | 22=>42 | 24=>142 | 25=>257 | 3=>3 | 39=>162 | 0=>0 | 53=>161 | 55=>167 | 4=>4 | 46=>287 | 45=>286 | 50=>190 | 5=>5 | 9=>9 | 66=>293 | 70=>297 | 76=>299 | 77=>300 | n=>n,fun | n=>n⟩
theorem Tryz.sortE : Go.Proofs.SlLaysF0.n6 Tryz.prog Tryz.sortE_ren:={
 mixed:=by kernel_rfl
 f6:=⟨Tryz.f177.name,by decide,Tryz.func177.trans (congrArg some (by kernel_rfl))⟩
 f14:=⟨Tryz.f187.name,by decide,Tryz.func187.trans (congrArg some (by kernel_rfl))⟩
 f15:=Tryz.func188.trans (congrArg some (by kernel_rfl))
 f20:=⟨Tryz.f190.name,by decide,Tryz.func190.trans (congrArg some (by kernel_rfl))⟩
 f21:=⟨Tryz.f191.name,by decide,Tryz.func191.trans (congrArg some (by kernel_rfl))⟩
 f22:=⟨Tryz.f192.name,by decide,Tryz.func192.trans (congrArg some (by kernel_rfl))⟩
 f23:=⟨Tryz.f193.name,by decide,Tryz.func193.trans (congrArg some (by kernel_rfl))⟩
 f24:=⟨Tryz.f194.name,by decide,Tryz.func194.trans (congrArg some (by kernel_rfl))⟩
 f25:=⟨Tryz.f195.name,by decide,Tryz.func195.trans (congrArg some (by kernel_rfl))⟩
 f26:=⟨Tryz.f196.name,by decide,Tryz.func196.trans (congrArg some (by kernel_rfl))⟩
 f27:=⟨Tryz.f197.name,by decide,Tryz.func197.trans (congrArg some (by kernel_rfl))⟩
 f28:=Tryz.func198.trans (congrArg some (by kernel_rfl))
 f29:=Tryz.func184.trans (congrArg some (by kernel_rfl))
 f46:=⟨Tryz.f199.name,by decide,Tryz.func199.trans (congrArg some (by kernel_rfl))⟩
 f47:=Tryz.func200.trans (congrArg some (by kernel_rfl))
 f48:=Tryz.func201.trans (congrArg some (by kernel_rfl))
 f49:=⟨Tryz.f202.name,by decide,Tryz.func202.trans (congrArg some (by kernel_rfl))⟩
 f50:=⟨Tryz.f203.name,by decide,Tryz.func203.trans (congrArg some (by kernel_rfl))⟩
 f57:=⟨Tryz.f204.name,by decide,Tryz.func204.trans (congrArg some (by kernel_rfl))⟩
 t0:=Tryz.underlying0
 a0:=Tryz.isAgg0
 z0:=Tryz.sizeOf0
 v0:=Tryz.zeroValue0
 t3:=Tryz.underlying3
 a3:=Tryz.isAgg3
 z3:=Tryz.sizeOf3
 v3:=Tryz.zeroValue3
 t4:=Tryz.underlying4
 a4:=Tryz.isAgg4
 z4:=Tryz.sizeOf4
 v4:=Tryz.zeroValue4
 t5:=Tryz.underlying5
 a5:=Tryz.isAgg5
 z5:=Tryz.sizeOf5
 v5:=Tryz.zeroValue5
 t9:=Tryz.underlying9
 a9:=Tryz.isAgg9
 z9:=Tryz.sizeOf9
 v9:=Tryz.zeroValue9
 t22:=Tryz.underlying42
 a22:=Tryz.isAgg42
 z22:=Tryz.sizeOf42
 v22:=Tryz.zeroValue42
 t25:=Tryz.underlying257
 a25:=Tryz.isAgg257
 z25:=Tryz.sizeOf257
 v25:=Tryz.zeroValue257
 t39:=Tryz.underlying162
 a39:=Tryz.isAgg162
 z39:=Tryz.sizeOf162
 v39:=Tryz.zeroValue162
 t45:=Tryz.underlying286
 a45:=Tryz.isAgg286
 z45:=Tryz.sizeOf286
 v45:=Tryz.zeroValue286
 t46:=Tryz.underlying287
 a46:=Tryz.isAgg287
 z46:=Tryz.sizeOf287
 v46:=Tryz.zeroValue287
 t50:=Tryz.underlying190
 a50:=Tryz.isAgg190
 z50:=Tryz.sizeOf190
 v50:=Tryz.zeroValue190
 t53:=Tryz.underlying161
 a53:=Tryz.isAgg161
 z53:=Tryz.sizeOf161
 v53:=Tryz.zeroValue161
 t55:=Tryz.underlying167
 a55:=Tryz.isAgg167
 z55:=Tryz.sizeOf167
 v55:=Tryz.zeroValue167
 t66:=Tryz.underlying293
 a66:=Tryz.isAgg293
 z66:=Tryz.sizeOf293
 v66:=Tryz.zeroValue293
 t70:=Tryz.underlying297
 a70:=Tryz.isAgg297
 z70:=Tryz.sizeOf297
 v70:=Tryz.zeroValue297
 t76:=Tryz.underlying299
 a76:=Tryz.isAgg299
 z76:=Tryz.sizeOf299
 v76:=Tryz.zeroValue299
 t77:=Tryz.underlying300
 a77:=Tryz.isAgg300
 z77:=Tryz.sizeOf300
 v77:=Tryz.zeroValue300 }
def Tryz.cmpInt_ren : Go.Shelf.Ren:=⟨fun | 5=>156 | 7=>179 | n=>n,fun | 22=>3 | 3=>3 | 4=>4 | n=>n,fun | n=>n⟩
theorem Tryz.cmpInt : Go.Proofs.SlLaysC2.n5 Tryz.prog Tryz.cmpInt_ren:={
 mixed:=by kernel_rfl
 f5:=⟨Tryz.f156.name,by decide,Tryz.func156.trans (congrArg some (by kernel_rfl))⟩
 f7:=⟨Tryz.f179.name,by decide,Tryz.func179.trans (congrArg some (by kernel_rfl))⟩
 t3:=Tryz.underlying3
 a3:=Tryz.isAgg3
 z3:=Tryz.sizeOf3
 v3:=Tryz.zeroValue3
 t4:=Tryz.underlying4
 a4:=Tryz.isAgg4
 z4:=Tryz.sizeOf4
 v4:=Tryz.zeroValue4
 t22:=Tryz.underlying3
 a22:=Tryz.isAgg3
 z22:=Tryz.sizeOf3
 v22:=Tryz.zeroValue3 }
end Go.Proofs
/- The library's sort by a function, at structs: a row of the call's own comes out as a sorted permutation. -/
set_option linter.unusedVariables false
set_option linter.unusedSimpArgs false
namespace Go.Sx
open Go.RowKit Go.Shelf Go.Sort Go.Proofs
variable {P : Program} {ρ : Ren} {α : Type} [Inhabited α]
theorem zGp {enc:α → List Value} {k:Nat} (hk:∀ x,(enc x).length = k) (l:List α):(Sort.flatK enc k l.toArray).toList = l.flatMap enc:=by
 apply List.ext_getElem?
 intro j
 by_cases hj:j < l.length * k
 · have k0 : 0 < k := by
     rcases Nat.eq_zero_or_pos k with h | h
     · subst h;simp at hj
     · exact h
   have hd:j / k < l.length:=Nat.div_lt_of_lt_mul (by rwa [Nat.mul_comm] at hj)
   have hm:j % k < k:=Nat.mod_lt _ k0
   have e:j = j / k * k + j % k:=by rw [Nat.mul_comm];exact (Nat.div_add_mod j k).symm
   have h1:=zCK hk l (j / k) (j % k) hd hm
   rw [← e] at h1
   rw [h1]
   have h2:j < (Sort.flatK enc k l.toArray).size:=by rw [size_flatK];simpa using hj
   rw [Array.getElem?_toList,Array.getElem?_eq_getElem h2]
   have h3:=get_flatK enc k l.toArray j (by simpa using hj)
   rw [getElem!_pos _ j h2] at h3
   rw [h3]
   have h4:l.toArray[j / k]! = l.getD (j / k) default:=by
     rw [getElem!_pos _ _ (by simpa using hd),List.getD_eq_getElem?_getD,List.getElem?_eq_getElem hd]
     simp
   rw [h4,List.getElem?_eq_getElem (by rw [hk];exact hm),getElem!_pos _ _ (by rw [hk];exact hm)]
 · rw [List.getElem?_eq_none (by simp;omega),List.getElem?_eq_none (by rw [zAN hk];omega)]
theorem zVy (L : SlLaysF0.n6 P ρ) (k : Nat) (aE : ∀ w, (isAgg (ρ.t 24)).run P w = .ok true w) (zE : ∀ w, (Go.sizeOf (ρ.t 24)).run P w = .ok k w) (enc : α → List Value) (hk : ∀ x, (enc x).length = k) (h1 : ∀ x, ∀ v ∈ enc x, v.oneCell' = true) (cf : α → α → Int) (hO : SWO (ltOf cf)) (g : Nat)
   (eg:∀ args w,(callFunc g args).run P w = .ok (.enter g args) w)
   (hcmp:∀ (W:World) (x y:α),Calls P g #[.agg (enc x).toArray,.agg (enc y).toArray] W fun e w'=>e = .returned (.int .i64 (cf x y)) ∧ ∃ q os',w' = grow (W.drewN q) os')
   {w:World} {v:Value} {e m:Nat} {l:List α} (hr:(row v e k m (l.flatMap enc)).p w) (hl:l.length = m) (hm:m ≤ 1000000) :
   Calls P (ρ.f 6) #[v,.func (.func g) #[] #[]] w (Ret w (zO [row v e k m (l.flatMap enc)]) fun u N=>u = .tuple #[] ∧ ∃ l':List α,l'.Perm l ∧ l'.Pairwise (fun x y=>ltOf cf y x = false) ∧ N = [row v e k m (l'.flatMap enc)]):=by
 have hr0:=hr
 obtain ⟨hlen,hr⟩:=hr
 rcases hr with ⟨rfl,rfl⟩ | ⟨g',cap,cur,rfl,_,hb,hmc,hcl,hcs,hcur⟩
 · obtain rfl:l = []:=List.length_eq_zero_iff.1 hl
   refine (AnyF.slices_SortFunc_none L none 0 _ w).mono ?_
   rintro e' w' ⟨rfl,rfl⟩
   exact ⟨_,_,rfl,⟨rfl,[],List.Perm.refl _,List.Pairwise.nil,rfl⟩,zAl hr0 (by simp [row,Value.ownBlock])⟩
 · have hsz:l.toArray.size = m:=by simpa using hl
   have hlt:g' < w.heap.size:=(Array.getElem?_eq_some_iff.1 hb).1
   have hft:=zGp hk l
   have hH:HoldsK enc k w g' 0 l.toArray:=by
     intro j hj
     rw [size_flatK,hsz] at hj
     have hj2:j < cur.toList.length:=by
       have:=Nat.mul_le_mul_right k hmc
       simp;omega
     refine ⟨?_,by simp [World.frozen?,hb]⟩
     have h2:(Sort.flatK enc k l.toArray)[j]? = cur[j]?:=by
       rw [← Array.getElem?_toList,hft,← hcur,List.getElem?_take,if_pos hj,Array.getElem?_toList]
     have h3:j < (Sort.flatK enc k l.toArray).size:=by rw [size_flatK,hsz];exact hj
     rw [getElem!_pos _ j h3]
     rw [Array.getElem?_eq_getElem h3] at h2
     simp [World.cell?,hb,← h2]
   have hcon:=AnyQ.slices_SortFunc L k aE zE enc hk h1 cf hO g #[] g' 0 cap l.toArray w eg (fun _ _ _ _ x y=>by simpa using hcmp _ x y) hH hlt (by rw [hsz];omega)
   rw [hsz] at hcon
   refine hcon.mono ?_
   rintro e' w' ⟨rfl,d',n,os,hp,hs,rfl⟩
   obtain ⟨hd1,_,hd2⟩:=hp
   have hd:d'.size = m:=by rw [hd1,hsz]
   have hex:∀ d:Array α,d.size = m → d.extract 0 m = d:=fun d h=>by rw [← h];exact Array.extract_size
   rw [hex _ hd,hex _ hsz] at hd2
   have hd3:d' = d'.toList.toArray:=by simp
   have hfd:=zGp hk d'.toList
   rw [← hd3] at hfd
   have hnew:(sortWorldK enc k w g' 0 n d' os).heap[g']? = some (.cells (putCells id 0 (Sort.flatK enc k d') cur) e (0,0)):=by
     unfold sortWorldK putRowK putRow mapBlock grow
     simp only [ahead]
     rw [Array.getElem?_append_left (by simpa using hlt),Array.getElem?_modify,if_pos rfl]
     show (w.heap[g']?).map _ = _
     rw [hb]
     rfl
   refine ⟨_,_,rfl,⟨rfl,d'.toList,by simpa using hd2,?_,rfl⟩,⟨rfl,rfl,rfl,by simp [sortWorldK,putRowK,putRow,mapBlock,grow,ahead],fun j hj hS=>?_⟩,?_,?_,?_⟩
   · refine List.pairwise_iff_getElem.2 fun i j hi hj hij=>?_
     have:=hs i j (Nat.zero_le _) hij (by simpa [hd] using hj)
     rwa [getElem!_pos _ i (by simpa using hi),getElem!_pos _ j (by simpa using hj)] at this
   · have hne:j ≠ g':=by simpa [zO,row,Value.ownBlock] using hS
     unfold sortWorldK putRowK putRow mapBlock grow
     simp only [ahead]
     rw [Array.getElem?_append_left (by simpa using hj),Array.getElem?_modify,if_neg (Ne.symm hne)]
     rfl
   · intro h hh
     simp only [List.mem_singleton] at hh
     subst hh
     refine ⟨by rw [zAN hk,Array.length_toList,hd],.inr ⟨g',cap,_,rfl,Nat.zero_le _,hnew,hmc,hcl,by simp [putCells,hcs],?_⟩⟩
     apply List.ext_getElem?
     intro j
     rw [List.getElem?_take,← hfd]
     by_cases hj:j < m * k
     · rw [if_pos hj]
       have h3:j < (Sort.flatK enc k d').size:=by rw [size_flatK,hd];exact hj
       have h5:j < cur.size:=by
         have:=Nat.mul_le_mul_right k hmc
         omega
       rw [Array.getElem?_toList,Array.getElem?_toList,Array.getElem?_eq_getElem h3,putCells,Array.getElem?_mapIdx,Array.getElem?_eq_getElem h5]
       simp only [Option.map_some,Nat.zero_le,Nat.zero_add,true_and,Nat.sub_zero,h3,if_true,id]
       rw [getElem!_pos _ j h3]
     · rw [if_neg hj,List.getElem?_eq_none (by simp [hd];omega)]
   · simp [zO,row,Value.ownBlock]
   · intro j hj
     exact .inl (by simpa [zO,row,Value.ownBlock] using hj)
omit [Inhabited α] in
theorem zNQ {f:α → Int} (x y:α):ltOf (fun x y:α=>Lib.compareInt (f x) (f y)) x y = decide (f x < f y):=by
 unfold ltOf Lib.compareInt
 by_cases h1:f x < f y
 · simp [h1]
 · by_cases h2:f y < f x <;> simp [h1,h2]
omit [Inhabited α] in
theorem zX4 (f:α → Int):SWO (ltOf fun x y:α=>Lib.compareInt (f x) (f y)) where
 irrefl x:=by rw [zNQ];simp
 trans x y z h1 h2:=by rw [zNQ] at *;simp at *;omega
 ntrans x y z h1 h2:=by rw [zNQ] at *;simp at *;omega
end Go.Sx
