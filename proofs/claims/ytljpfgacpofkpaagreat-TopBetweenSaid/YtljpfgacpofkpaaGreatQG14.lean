import Derived.Test.YtljpfgacpofkpaaGreatQG13
import Derived.Test.YtljpfgacpofkpaaGreatQSxBasB
import Derived.Test.YtljpfgacpofkpaaGreatQSxRecs
import Derived.Test.YtljpfgacpofkpaaGreatQSxGrams
import Derived.KernelRfl
import Derived.Test.YtljpfgacpofkpaaGreatProg
set_option linter.unusedVariables false
set_option linter.unusedSimpArgs false
namespace Go.Proofs.YtljpfgacpofkpaaGreat
open Tryz
open Go Go.Sx Go.RowKit
set_option maxRecDepth 4000
set_option maxHeartbeats 1000000
theorem zWg (r:zY) (w0:World):Calls Tryz.prog 202 #[.agg #[zI r.k,zI r.id,zI r.p0,zI r.p1,zI r.p2,zI r.v0,zI r.v1,zI r.v2,.int .u16 (((r.a).toNat:Nat):Int)]] w0 (zAh w0 (nI (zAY r))):=by
 refine zG (F0:=[(0,.agg #[zI r.k,zI r.id,zI r.p0,zI r.p1,zI r.p2,zI r.v0,zI r.v1,zI r.v2,.int .u16 (((r.a).toNat:Nat):Int)])]) func202 rfl rfl rfl (.c .n) (Mem.nil _) ?_
 refine go 13 [0,0,0,0,1] [13,3,1] .n (λg1=>⟨rfl,rfl,λg2=>⟨rfl,rfl,?_⟩⟩)
 intro a w hs;refine zX (b:=decide (r.k<0)) (λc_3=>?_) (λc_3=>?_)
 ·
  rw [c_3] at hs
  replace c_3:=of_decide_eq_true c_3
  revert a w hs
  refine go 7 [] [2] .n ?_
  refine cl (·.drop (.c (.s .z) (.c .z .n))) ?_
  intro a w hs;exact fin hs rfl rfl ⟨congrArg (Value.int .i64) (by unfold zAY;first | (rw [if_pos (by omega)];rfl) | (rw [if_neg (by omega),if_pos (by omega)];rfl) | (rw [if_neg (by omega),if_neg (by omega),if_pos (by first | exact .inl ⟨by omega,by assumption⟩ | exact .inr ⟨by omega,by assumption⟩)];rfl) | (rw [if_neg (by omega),if_neg (by omega),if_neg (by rintro (⟨_,h_⟩ | ⟨_,h_⟩)<;>first | omega | simp_all)];rfl)),rfl⟩
 rw [c_3] at hs
 replace c_3:=of_decide_eq_false c_3
 revert a w hs
 refine go 5 [0] [9,3,1] (.c (.s .z) .n) ⟨rfl,?_⟩
 refine ifG rfl (λc_4=>?_) (λc_4=>?_)
 ·
  refine go 1 [] [2] .n ?_
  refine cl (·.drop (.c (.s .z) (.c .z .n))) ?_
  intro a w hs;exact fin hs rfl rfl ⟨congrArg (Value.int .i64) (by unfold zAY;first | (rw [if_pos (by omega)];rfl) | (rw [if_neg (by omega),if_pos (by omega)];rfl) | (rw [if_neg (by omega),if_neg (by omega),if_pos (by first | exact .inl ⟨by omega,by assumption⟩ | exact .inr ⟨by omega,by assumption⟩)];rfl) | (rw [if_neg (by omega),if_neg (by omega),if_neg (by rintro (⟨_,h_⟩ | ⟨_,h_⟩)<;>first | omega | simp_all)];rfl)),rfl⟩
 refine go 4 [0] [22,3,1] (.c .z .n) ⟨rfl,?_⟩
 intro a w hs;refine zX (b:=decide (r.id<0)) (λc_5=>?_) (λc_5=>?_)
 ·
  rw [c_5] at hs
  replace c_5:=of_decide_eq_true c_5
  revert a w hs
  refine go 7 [] [2] .n ?_
  refine cl (·.drop (.c (.s .z) (.c .z .n))) ?_
  intro a w hs;exact fin hs rfl rfl ⟨congrArg (Value.int .i64) (by unfold zAY;first | (rw [if_pos (by omega)];rfl) | (rw [if_neg (by omega),if_pos (by omega)];rfl) | (rw [if_neg (by omega),if_neg (by omega),if_pos (by first | exact .inl ⟨by omega,by assumption⟩ | exact .inr ⟨by omega,by assumption⟩)];rfl) | (rw [if_neg (by omega),if_neg (by omega),if_neg (by rintro (⟨_,h_⟩ | ⟨_,h_⟩)<;>first | omega | simp_all)];rfl)),rfl⟩
 rw [c_5] at hs
 replace c_5:=of_decide_eq_false c_5
 revert a w hs
 refine go 5 [0] [18,3,1] (.c .z .n) ⟨rfl,?_⟩
 refine ifG rfl (λc_6=>?_) (λc_6=>?_)
 ·
  refine go 1 [] [2] .n ?_
  refine cl (·.drop (.c (.s .z) (.c .z .n))) ?_
  intro a w hs;exact fin hs rfl rfl ⟨congrArg (Value.int .i64) (by unfold zAY;first | (rw [if_pos (by omega)];rfl) | (rw [if_neg (by omega),if_pos (by omega)];rfl) | (rw [if_neg (by omega),if_neg (by omega),if_pos (by first | exact .inl ⟨by omega,by assumption⟩ | exact .inr ⟨by omega,by assumption⟩)];rfl) | (rw [if_neg (by omega),if_neg (by omega),if_neg (by rintro (⟨_,h_⟩ | ⟨_,h_⟩)<;>first | omega | simp_all)];rfl)),rfl⟩
 refine go 4 [0] [31,3,1] (.c .z .n) ⟨rfl,?_⟩
 intro a w hs;refine zX (b:=(r.k:Int)==1) (λc_7=>?_) (λc_7=>?_)
 ·
  rw [c_7] at hs
  replace c_7:=eq_of_beq c_7
  revert a w hs
  refine go 3 [0,1] [34,31,3,1] (.c .z (.c .z .n)) ⟨rfl,rfl,by kernel_rfl,?_⟩
  intro a w hs;rw [show zAK _ _=zA0 r from zMp r] at hs
  revert a w hs
  refine go 2 [] [27,3,1] .n ?_
  refine ifG rfl (λc_8=>?_) (λc_8=>?_)
  ·
   refine go 0 [] [27] .n ?_
   refine ifG rfl (λc_9=>?_) (λc_9=>?_)
   ·
    refine go 1 [] [2] .n ?_
    refine cl (·.drop (.c (.s .z) (.c .z .n))) ?_
    intro a w hs;exact fin hs rfl rfl ⟨congrArg (Value.int .i64) (by unfold zAY;first | (rw [if_pos (by omega)];rfl) | (rw [if_neg (by omega),if_pos (by omega)];rfl) | (rw [if_neg (by omega),if_neg (by omega),if_pos (by first | exact .inl ⟨by omega,by assumption⟩ | exact .inr ⟨by omega,by assumption⟩)];rfl) | (rw [if_neg (by omega),if_neg (by omega),if_neg (by rintro (⟨_,h_⟩ | ⟨_,h_⟩)<;>first | omega | simp_all)];rfl)),rfl⟩
   refine go 1 [] [2] .n ?_
   refine cl (·.drop (.c (.s .z) (.c .z .n))) ?_
   intro a w hs;exact fin hs rfl rfl ⟨congrArg (Value.int .i64) (by unfold zAY;first | (rw [if_pos (by omega)];rfl) | (rw [if_neg (by omega),if_pos (by omega)];rfl) | (rw [if_neg (by omega),if_neg (by omega),if_pos (by first | exact .inl ⟨by omega,by assumption⟩ | exact .inr ⟨by omega,by assumption⟩)];rfl) | (rw [if_neg (by omega),if_neg (by omega),if_neg (by rintro (⟨_,h_⟩ | ⟨_,h_⟩)<;>first | omega | simp_all)];rfl)),rfl⟩
  refine go 4 [0] [39,3,1] (.c .z .n) ⟨rfl,?_⟩
  intro a w hs;refine zX (b:=(r.k:Int)==2) (λc_10=>?_) (λc_10=>?_)
  ·
   rw [c_10] at hs
   replace c_10:=eq_of_beq c_10
   revert a w hs
   refine go 3 [0,1] [42,39] (.c .z (.c .z .n)) ⟨rfl,rfl,by kernel_rfl,?_⟩
   intro a w hs;rw [show zAK _ _=zA0 r from zMp r] at hs
   revert a w hs
   refine go 2 [] [27] .n ?_
   refine ifG rfl (λc_11=>?_) (λc_11=>?_)
   ·
    refine go 1 [] [2] .n ?_
    refine cl (·.drop (.c (.s .z) (.c .z .n))) ?_
    intro a w hs;exact fin hs rfl rfl ⟨congrArg (Value.int .i64) (by unfold zAY;first | (rw [if_pos (by omega)];rfl) | (rw [if_neg (by omega),if_pos (by omega)];rfl) | (rw [if_neg (by omega),if_neg (by omega),if_pos (by first | exact .inl ⟨by omega,by assumption⟩ | exact .inr ⟨by omega,by assumption⟩)];rfl) | (rw [if_neg (by omega),if_neg (by omega),if_neg (by rintro (⟨_,h_⟩ | ⟨_,h_⟩)<;>first | omega | simp_all)];rfl)),rfl⟩
   refine go 1 [] [2] .n ?_
   refine cl (·.drop (.c (.s .z) (.c .z .n))) ?_
   intro a w hs;exact fin hs rfl rfl ⟨congrArg (Value.int .i64) (by unfold zAY;first | (rw [if_pos (by omega)];rfl) | (rw [if_neg (by omega),if_pos (by omega)];rfl) | (rw [if_neg (by omega),if_neg (by omega),if_pos (by first | exact .inl ⟨by omega,by assumption⟩ | exact .inr ⟨by omega,by assumption⟩)];rfl) | (rw [if_neg (by omega),if_neg (by omega),if_neg (by rintro (⟨_,h_⟩ | ⟨_,h_⟩)<;>first | omega | simp_all)];rfl)),rfl⟩
  rw [c_10] at hs
  replace c_10:=zAW c_10
  revert a w hs
  refine go 7 [] [2] .n ?_
  refine cl (·.drop (.c (.s .z) (.c .z .n))) ?_
  intro a w hs;exact fin hs rfl rfl ⟨congrArg (Value.int .i64) (by unfold zAY;first | (rw [if_pos (by omega)];rfl) | (rw [if_neg (by omega),if_pos (by omega)];rfl) | (rw [if_neg (by omega),if_neg (by omega),if_pos (by first | exact .inl ⟨by omega,by assumption⟩ | exact .inr ⟨by omega,by assumption⟩)];rfl) | (rw [if_neg (by omega),if_neg (by omega),if_neg (by rintro (⟨_,h_⟩ | ⟨_,h_⟩)<;>first | omega | simp_all)];rfl)),rfl⟩
 rw [c_7] at hs
 replace c_7:=zAW c_7
 revert a w hs
 refine go 10 [0] [39,3,1] (.c .z .n) ⟨rfl,?_⟩
 intro a w hs;refine zX (b:=(r.k:Int)==2) (λc_12=>?_) (λc_12=>?_)
 ·
  rw [c_12] at hs
  replace c_12:=eq_of_beq c_12
  revert a w hs
  refine go 3 [0,1] [42,39] (.c .z (.c .z .n)) ⟨rfl,rfl,by kernel_rfl,?_⟩
  intro a w hs;rw [show zAK _ _=zA0 r from zMp r] at hs
  revert a w hs
  refine go 2 [] [27] .n ?_
  refine ifG rfl (λc_13=>?_) (λc_13=>?_)
  ·
   refine go 1 [] [2] .n ?_
   refine cl (·.drop (.c (.s .z) (.c .z .n))) ?_
   intro a w hs;exact fin hs rfl rfl ⟨congrArg (Value.int .i64) (by unfold zAY;first | (rw [if_pos (by omega)];rfl) | (rw [if_neg (by omega),if_pos (by omega)];rfl) | (rw [if_neg (by omega),if_neg (by omega),if_pos (by first | exact .inl ⟨by omega,by assumption⟩ | exact .inr ⟨by omega,by assumption⟩)];rfl) | (rw [if_neg (by omega),if_neg (by omega),if_neg (by rintro (⟨_,h_⟩ | ⟨_,h_⟩)<;>first | omega | simp_all)];rfl)),rfl⟩
  refine go 1 [] [2] .n ?_
  refine cl (·.drop (.c (.s .z) (.c .z .n))) ?_
  intro a w hs;exact fin hs rfl rfl ⟨congrArg (Value.int .i64) (by unfold zAY;first | (rw [if_pos (by omega)];rfl) | (rw [if_neg (by omega),if_pos (by omega)];rfl) | (rw [if_neg (by omega),if_neg (by omega),if_pos (by first | exact .inl ⟨by omega,by assumption⟩ | exact .inr ⟨by omega,by assumption⟩)];rfl) | (rw [if_neg (by omega),if_neg (by omega),if_neg (by rintro (⟨_,h_⟩ | ⟨_,h_⟩)<;>first | omega | simp_all)];rfl)),rfl⟩
 rw [c_12] at hs
 replace c_12:=zAW c_12
 revert a w hs
 refine go 7 [] [2] .n ?_
 refine cl (·.drop (.c (.s .z) (.c .z .n))) ?_
 intro a w hs;exact fin hs rfl rfl ⟨congrArg (Value.int .i64) (by unfold zAY;first | (rw [if_pos (by omega)];rfl) | (rw [if_neg (by omega),if_pos (by omega)];rfl) | (rw [if_neg (by omega),if_neg (by omega),if_pos (by first | exact .inl ⟨by omega,by assumption⟩ | exact .inr ⟨by omega,by assumption⟩)];rfl) | (rw [if_neg (by omega),if_neg (by omega),if_neg (by rintro (⟨_,h_⟩ | ⟨_,h_⟩)<;>first | omega | simp_all)];rfl)),rfl⟩
theorem zHq (g:Nat) (w0:World):Calls Tryz.prog 195 #[pt g 0] w0 (zAh w0 (.agg #[pt g 2,pt g 3,pt g 4,pt g 5,pt g 6,pt g 7])):=by
 refine zG (F0:=[(0,pt g 0)]) func195 rfl rfl rfl (.c .n) (Mem.nil _) ?_
 refine go 1 [] [2,0] .n (λg1=>?_)
 intro a w hs
 refine zO [.p [] [],.p [0] [],.p [1] [],.p [2] [],.p [] [],.p [4] [],.p [5] [],.p [6] [],.p [] [],.p [8] [],.p [9] [],.p [10] [],.p [] [],.p [12] [],.p [13] [],.p [14] [],.p [] [],.p [16] [],.p [17] [],.p [18] [],.p [] [],.p [20] [],.p [21] [],.p [22] [],.p [23,19,15,11,7,3] [],.s [24] [0] [0] []] [] hs (.c .z .n) .n (by kernel_rfl) ⟨rfl,⟨rfl,by kernel_rfl,λ_=>rfl,rfl,rfl,trivial⟩,λ_=>rfl,?_⟩
 refine goE 0 [] [2] .n ?_
 intro a w hs;exact zI0 hs rfl rfl .z (.z (.c (.c (.c (.c (.c (.c .n))))))) isAgg294 sizeOf294 (.c .z .n) ⟨rfl,rfl⟩
theorem zDO (v:Value) (m:Nat) (bs:List zQ) (x:Int) (w0:World) (hr:(row v 5 1 m (zD bs)).p w0) (hm:m≤200000) (hx : -9223372036854775808≤x∧x≤9223372036854775807):Calls Tryz.prog 286 #[v,.int .i64 x] w0 (Ret w0 (zN [row v 5 1 m (zD bs)]) λu N=>N=[row u 5 1 (m+(zDd x).length) (zD (bs++zDd x))]):=by
 have hvl:=zC3 (zGY x).toNat
 refine zG (F0:=[(0,v),(1,zI x)]) func286 rfl rfl rfl (.c (.c .n)) (zAq hr zOW) ?_
 refine go 3 [] [6,5] .n ?_
 intro a w hs;refine zB (v:=qI (zGY x)) hs (.c rfl .n) call200 (zRR x _ (by omega)) rfl ?_
 intro a w hs;refine zL hs (.c rfl .n) call201 .n (zEW (zGY x) _) rfl ?_;clear hs w a;rintro v1 _ a w rfl hs
 refine zBH (size:=1) (bytes:=1) hs rfl rfl (.s .z) (zK (hs.mem.del .z)) (zAR _) underlying28 (i:=Tryz.t5) rfl rfl rfl rfl rfl (by decide) (by omega) (by simp only [maxLen];omega) rfl ?_;intro v2
 refine goL 1 [] [4] .n ?_
 refine cl (·.drop (.c (.s .z) .n)) ?_
 refine cl (·.rerow .z (m':=m+(zDd x).length) (xs':=zD (bs++zDd x)) (by simp only [zDd,zBd]) (by simp only [zBb,zDd])) ?_
 intro a w hs;exact fin hs rfl rfl rfl
theorem zIF (v:Value) (m:Nat) (bs:List zQ) (g:Nat) (r:zY) (w0:World) (hr:(row v 5 1 m (zD bs)).p w0) (hm:m≤100000) (hg:(blk g [zI r.k,zI r.id,zI r.p0,zI r.p1,zI r.p2,zI r.v0,zI r.v1,zI r.v2,.int .u16 (((r.a).toNat:Nat):Int)] 161).p w0) (hw:r.wf):Calls Tryz.prog 252 #[v,pt g 0] w0 (Ret w0 (zN [row v 5 1 m (zD bs)]) λu N=>N=[row u 5 1 (m+(zBe r).length) (zD (bs++zBe r))]):=by
 have hwf:=hw.facts
 have hva:=zEV r.a.toNat
 refine zG (F0:=[(0,v),(1,pt g 0)]) func252 rfl rfl rfl (.c (.c .n)) (zAq hr zOW) ?_
 refine go 2 [] [7,0,1] .n ?_
 intro a w hs;refine zB (v:=.agg #[pt g 2,pt g 3,pt g 4,pt g 5,pt g 6,pt g 7]) hs (.c rfl .n) call195 (zHq g _) rfl ?_
 refine goL 1 [] [9,8,0,1] .n ?_
 intro a w hs;refine zCA 6 ?_
 revert a w hs
 refine go 7 [] [14,12,9,8,1] .n ?_
 intro a w hs;refine zAC hs rfl (hs.mem.keep hg (zDM hr hg (by decide))) (.s (.s .z)) isAgg2 rfl ?_
 intro a w hs;refine zL hs (.c rfl (.c rfl .n)) call286 (.c .z .n) (zDO _ _ bs r.p0 _ (hs.mem.del .z) (by omega) (by omega)) rfl ?_;clear hs w a;rintro v1 _ a w rfl hs
 have hk2:=zAP r.p0
 revert a w hs
 refine goL 3 [] [9,0,8,1] .n ⟨by decide,?_⟩
 intro a w hs;refine zAL ?_
 revert a w hs
 refine go 7 [] [14,12,9,8,1] .n ?_
 intro a w hs;refine zAC hs rfl (hs.mem.keep hg (zDM hr hg (by decide))) (.s (.s (.s .z))) isAgg2 rfl ?_
 intro a w hs;refine zL hs (.c rfl (.c rfl .n)) call286 (.c .z .n) (zDO _ _ (bs++zDd r.p0) r.p1 _ (hs.mem.del .z) (by omega) (by omega)) rfl ?_;clear hs w a;rintro v3 _ a w rfl hs
 have hk4:=zAP r.p1
 revert a w hs
 refine goL 3 [] [9,0,8,1] .n ⟨by decide,?_⟩
 intro a w hs;refine zAL ?_
 revert a w hs
 refine go 7 [] [14,12,9,8,1] .n ?_
 intro a w hs;refine zAC hs rfl (hs.mem.keep hg (zDM hr hg (by decide))) (.s (.s (.s (.s .z)))) isAgg2 rfl ?_
 intro a w hs;refine zL hs (.c rfl (.c rfl .n)) call286 (.c .z .n) (zDO _ _ ((bs++zDd r.p0)++zDd r.p1) r.p2 _ (hs.mem.del .z) (by omega) (by omega)) rfl ?_;clear hs w a;rintro v5 _ a w rfl hs
 have hk6:=zAP r.p2
 revert a w hs
 refine goL 3 [] [9,0,8,1] .n ⟨by decide,?_⟩
 intro a w hs;refine zAL ?_
 revert a w hs
 refine go 7 [] [14,12,9,8,1] .n ?_
 intro a w hs;refine zAC hs rfl (hs.mem.keep hg (zDM hr hg (by decide))) (.s (.s (.s (.s (.s .z))))) isAgg2 rfl ?_
 intro a w hs;refine zL hs (.c rfl (.c rfl .n)) call286 (.c .z .n) (zDO _ _ (((bs++zDd r.p0)++zDd r.p1)++zDd r.p2) r.v0 _ (hs.mem.del .z) (by omega) (by omega)) rfl ?_;clear hs w a;rintro v7 _ a w rfl hs
 have hk8:=zAP r.v0
 revert a w hs
 refine goL 3 [] [9,0,8,1] .n ⟨by decide,?_⟩
 intro a w hs;refine zAL ?_
 revert a w hs
 refine go 7 [] [14,12,9,8,1] .n ?_
 intro a w hs;refine zAC hs rfl (hs.mem.keep hg (zDM hr hg (by decide))) (.s (.s (.s (.s (.s (.s .z)))))) isAgg2 rfl ?_
 intro a w hs;refine zL hs (.c rfl (.c rfl .n)) call286 (.c .z .n) (zDO _ _ ((((bs++zDd r.p0)++zDd r.p1)++zDd r.p2)++zDd r.v0) r.v1 _ (hs.mem.del .z) (by omega) (by omega)) rfl ?_;clear hs w a;rintro v9 _ a w rfl hs
 have hk10:=zAP r.v1
 revert a w hs
 refine goL 3 [] [9,0,8,1] .n ⟨by decide,?_⟩
 intro a w hs;refine zAL ?_
 revert a w hs
 refine go 7 [] [14,12,9,8,1] .n ?_
 intro a w hs;refine zAC hs rfl (hs.mem.keep hg (zDM hr hg (by decide))) (.s (.s (.s (.s (.s (.s (.s .z))))))) isAgg2 rfl ?_
 intro a w hs;refine zL hs (.c rfl (.c rfl .n)) call286 (.c .z .n) (zDO _ _ (((((bs++zDd r.p0)++zDd r.p1)++zDd r.p2)++zDd r.v0)++zDd r.v1) r.v2 _ (hs.mem.del .z) (by omega) (by omega)) rfl ?_;clear hs w a;rintro v11 _ a w rfl hs
 have hk12:=zAP r.v2
 revert a w hs
 refine goL 3 [] [9,0,8,1] .n ⟨by decide,?_⟩
 intro a w hs;refine zAL ?_
 revert a w hs
 refine go 6 [] [21,18] .n ?_
 intro a w hs;refine zAC hs rfl (hs.mem.keep hg (zDM hr hg (by decide))) (.s (.s (.s (.s (.s (.s (.s (.s .z)))))))) isAgg41 rfl ?_
 intro a w hs;refine zGR (X:=r.a) hs rfl rfl underlying41 underlying252 rfl ?_
 intro a w hs;refine zL hs (.c rfl .n) call201 .n (zEW ((r.a).setWidth 64) _) rfl ?_;clear hs w a;rintro v13 _ a w rfl hs
 replace hs:=hs.rerow .z (m':=(zCX r.a.toNat).length) (xs':=zD (zCX r.a.toNat)) (by rw [zVm];rfl) (by rw [zVm])
 refine zBH (size:=1) (bytes:=1) hs rfl rfl (.s .z) (zK (hs.mem.del .z)) (zAR _) underlying28 (i:=Tryz.t5) rfl rfl rfl rfl rfl (by decide) (by omega) (by simp only [maxLen];omega) rfl ?_;intro v14
 refine goL 1 [] [4] .n ?_
 refine cl (·.drop (.c (.s .z) .n)) ?_
 intro a w hs;replace hs:=hs.rerow .z (m':=m+(zBe r).length) (xs':=zD (bs++zBe r)) (by simp only [List.length_append,zBd,zBe];omega) (by simp only [zBb,List.append_assoc,zBe])
 exact fin hs rfl rfl rfl
theorem zLX (v:Value) (m:Nat) (bs:List zQ) (g:Nat) (r:zY) (w0:World) (hr:(row v 5 1 m (zD bs)).p w0) (hm:m≤100000) (hg:(blk g [zI r.k,zI r.id,zI r.p0,zI r.p1,zI r.p2,zI r.v0,zI r.v1,zI r.v2,.int .u16 (((r.a).toNat:Nat):Int)] 161).p w0) (hw:r.wf):Calls Tryz.prog 254 #[v,pt g 0] w0 (Ret w0 (zN [row v 5 1 m (zD bs)]) λu N=>N=[row u 5 1 (m+(zBR r).length) (zD (bs++zBR r))]):=by
 have hwf:=hw.facts
 have hva:=zEV r.a.toNat
 have hml:=hr.1
 rw [show (zD bs).length=bs.length by simp [zD],Nat.mul_one] at hml
 have hlu_:=zBY r 0
 refine zG (F0:=[(0,v),(1,pt g 0)]) func254 rfl rfl rfl (.c (.c .n)) (zAq hr zOW) ?_
 refine go 2 [] [8,0,1] .n ?_
 intro a w hs;refine zAG hs rfl (zK (hs.mem.del .z)).isSl underlying28 rfl ?_
 refine goL 3 [] [11,10,5,1] .n (λg1=>?_)
 intro a w hs;refine zBH (size:=1) (bytes:=1) hs rfl rfl (.s .z) (zAJ (m:=1) (size:=1) (hs.mem.del .z) rfl (by decide)) (by simp [Value.oneCell']) underlying28 (i:=Tryz.t5) rfl rfl rfl rfl rfl (by decide) (by omega) (by simp only [maxLen];omega) rfl ?_;intro v2
 refine cl (·.drop (.c (.s .z) .n)) ?_
 intro a w hs;replace hs:=hs.rerow .z (m':=(m+1+(zAj r 0).length)) (xs':=zD (bs++zA2 r 0::zAj r 0)) (by simp only [zAj,List.length_nil]) (by simp only [zBb,zA2,zAj];rfl)
 revert a w hs
 refine goL 2 [] [13,0,5,1] .n ?_
 intro a w hs;refine zB (v:=.agg #[pt g 2,pt g 3,pt g 4,pt g 5,pt g 6,pt g 7]) hs (.c rfl .n) call195 (zHq g _) rfl ?_
 refine goL 1 [] [15,14,0,5,1] .n ?_
 intro a w hs;refine zCC (λmm_ a w=>∃ i:Nat,∃ q:Value,mm_=6-i∧St 57 [(0,q),(1,pt g 0),(5,zI (m:Int)),(14,.agg #[pt g 2,pt g 3,pt g 4,pt g 5,pt g 6,pt g 7]),(15,nI i)] w0 (zN [row v 5 1 m (zD bs)]) [row q 5 1 (m+1+(zAj r i).length) (zD (bs++zA2 r i::zAj r i))] a w∧i≤6) ⟨0,v2,rfl,hs.sub (.c rfl (.c rfl (.c rfl (.c rfl (.c rfl .n))))),by omega⟩ ?_
 clear hs w a;rintro mm_ a w ⟨i,q,rfl,hs,hI1_0⟩
 have hlui:=zBY r i
 have hluj:=zBY r (i+1)
 revert a w hs
 refine go 1 [] [16,0,1,5,14,15] .n ?_
 refine ifG rfl (λc_3=>?_) (λc_3=>?_)
 ·
  refine go 1 [] [17,0,1,5,14,15] .n ?_
  intro a w hs;refine za5 hs rfl rfl underlying294 (by omega) (by omega) (zW6 (by omega)) isAgg293 sizeOf293 rfl ?_
  refine goL 3 [] [19,7,6,0,1,5,14,15] .n ?_
  intro a w hs;refine zT8 hs rfl rfl ?_
  intro a w hs;refine zKR (v:=zI (r.num i)) hs rfl (hs.mem.keep hg (zDM hr hg (by decide))) (zQI (by omega)) isAgg2 rfl ?_
  refine goL 1 [] [22,7,6,0,1,5,14,15] .n ?_
  refine ifG rfl (λc_4=>?_) (λc_4=>?_)
  ·
   have hn_:r.num i≠0:=by assumption
   have hnr:=zX7 hw (i:=i) (by omega)
   refine go 0 [] [7,6,0,1,5,14,15] .n ?_
   intro a w hs
   refine zAQ [.p [] [],.p [] [],.y [1,0] (.pointer (some (adr q m))) [] [] [] λvs5=>[],.y [2] (bI (zA2 r i)) [] [] [] λvs5=>[],.p [] [],.v [4] (bI ((1#8)<<<i)),.v [5,3] (bI ((zA2 r i)|||((1#8)<<<i))),.y [1,0] (.pointer (some (adr q m))) [] [] [] λvs5=>[],.x [7,6] ⟨[row q 5 1 (m+1+(zAj r i).length) (zD (bs++zA2 r i::zAj r i))],[],[],λvs5=>True,λvs5=>[row q 5 1 (m+1+(zAj r i).length) (zD ((bs++zA2 r i::zAj r i).set m ((zA2 r i)|||((1#8)<<<i))))],none⟩] [] hs .n (.c .z .n) .n (by kernel_rfl) ⟨λ_ _ _ _ hm hs K=>zQg (X:=1#8) (m:=i) hs rfl (by decide) rfl rfl rfl (vk K),λ_ _ _ _ hm hs K=>zKA (X:=zA2 r i) (Y:=(1#8)<<<i) hs rfl rfl rfl rfl rfl (vk K),⟨(.c .z .n),by kernel_rfl,λ_=>rfl,rfl,rfl⟩,⟨?_,?_,?_,?_,trivial⟩,?_⟩
   ·
    intro a_ w_ R_ rest_ vs5 hm hs ht hx
    have hs0:=hs.bare
    refine zA9 (j:=m) hs rfl rfl (zK (hm.own (List.mem_append.2 (.inr ((hx 8 (zJ 9 _ (by kernel_rfl))).1 _ (List.Mem.head _)))))) rfl (by omega) underlying28 sizeOf5 rfl ?_;clear hs;intro a w hs
    exact wpList_nil ⟨rfl,_,_,hs0,(.c (.c .r)),hs,rfl⟩
   ·
    intro a_ w_ R_ rest_ vs5 hm hs ht hx
    have hs0:=hs.bare
    refine zBf hs rfl (zK (hm.own (List.mem_append.2 (.inr ((hx 8 (zJ 9 _ (by kernel_rfl))).1 _ (List.Mem.head _)))))) (zB9 (bs++zA2 r i::zAj r i) (by first | omega | (simp;omega))) isAgg5 rfl ?_;clear hs;intro a w hs
    rw [zOS hml] at hs
    exact wpList_nil ⟨rfl,_,_,hs0,(.c .r),hs,rfl⟩
   ·
    intro a_ w_ R_ rest_ vs5 hm hs ht hx
    have hs0:=hs.bare
    refine zA9 (j:=m) hs rfl rfl (zK (hm.own (List.mem_append.2 (.inr ((hx 8 (zJ 9 _ (by kernel_rfl))).1 _ (List.Mem.head _)))))) rfl (by omega) underlying28 sizeOf5 rfl ?_;clear hs;intro a w hs
    exact wpList_nil ⟨rfl,_,_,hs0,(.c (.c .r)),hs,rfl⟩
   ·
    intro a_ w_ R_ rest_ vs5 hm hs ht hx
    have hs0:=hs.bare
    refine zNH hs rfl rfl .z (by omega) rfl sizeOf5 ?_;clear hs;intro a w hs
    replace hs:=hs.rerow .z (m':=(m+1+(zAj r i).length)) (xs':=zD ((bs++zA2 r i::zAj r i).set m ((zA2 r i)|||((1#8)<<<i)))) (rfl) ((zFR _ _ _).symm)
    exact wpList_nil ⟨rfl,.tuple #[],_,hs0,(.c (.c .r)),hs,trivial⟩
   clear hs w a;intro vs5 a w hs hf
   clear hf
   revert a w hs
   refine goE 1 [] [31,7,1,5,14,15] .n ?_
   refine cl (·.rerow .z (m':=(m+1+(zAj r i).length)) (xs':=zD (bs++(zA2 r i|||(1#8<<<i))::zAj r i)) (rfl) (by rw [zSM hml])) ?_
   refine go 1 [] [32,31,1,5,14,15] .n ?_
   intro a w hs;refine zT8 hs rfl rfl ?_
   intro a w hs;refine zKR (v:=zI (r.num i)) hs rfl (hs.mem.keep hg (zDM hr hg (by decide))) (zQI (by omega)) isAgg2 rfl ?_
   intro a w hs;refine zL hs (.c rfl (.c rfl .n)) call286 (.c .z .n) (zDO _ _ (bs++(zA2 r i|||(1#8<<<i))::zAj r i) (r.num i) _ (hs.mem.del .z) (by omega) (by omega)) rfl ?_;clear hs w a;rintro v6 _ a w rfl hs
   have hk7:=zAP (r.num i)
   revert a w hs
   refine goL 3 [] [15,0,1,5,14] .n ⟨(by omega),?_⟩
   intro a w hs;replace hs:=hs.rerow .z (m':=(m+1+(zAj r (i+1)).length)) (xs':=zD (bs++zA2 r (i+1)::zAj r (i+1))) (by first | (rw [zHW hz_]) | (rw [zHc hn_];simp only [List.length_append];omega)) (by first | (rw [zN5 hz_,zHW hz_]) | (rw [zOl hn_,zHc hn_];simp [zBb]))
   refine ⟨_,?_,(i+1),v6,rfl,hs.sub (.c rfl (.c rfl (.c rfl (.c rfl (.c rfl .n))))),by omega⟩
   omega
  have hz_:r.num i=0:=by assumption
  refine go 2 [] [15,0,1,5,14] .n ⟨(by omega),?_⟩
  intro a w hs;replace hs:=hs.rerow .z (m':=(m+1+(zAj r (i+1)).length)) (xs':=zD (bs++zA2 r (i+1)::zAj r (i+1))) (by first | (rw [zHW hz_]) | (rw [zHc hn_];simp only [List.length_append];omega)) (by first | (rw [zN5 hz_,zHW hz_]) | (rw [zOl hn_,zHc hn_];simp [zBb]))
  refine ⟨_,?_,(i+1),q,rfl,hs.sub (.c rfl (.c rfl (.c rfl (.c rfl (.c rfl .n))))),by omega⟩
  omega
 obtain rfl:i=6:=by omega
 refine go 3 [] [39,0,1,5] .n ?_
 intro a w hs;refine zAC hs rfl (hs.mem.keep hg (zDM hr hg (by decide))) (.s (.s (.s (.s (.s (.s (.s (.s .z)))))))) isAgg41 rfl ?_
 refine goL 1 [] [41,0,1,5] .n ?_
 refine ifG rfl (λc_8=>?_) (λc_8=>?_)
 ·
  refine go 2 [] [43,42,0,1] .n ?_
  intro a w hs;refine zA9 (j:=m) hs rfl rfl (zK (hs.mem.del .z)) rfl (by omega) underlying28 sizeOf5 rfl ?_
  intro a w hs;refine zBf hs rfl (zK (hs.mem.del .z)) (zB9 (bs++zA2 r 6::zAj r 6) (by first | omega | (simp;omega))) isAgg5 rfl ?_
  intro a w hs;rw [zOS hml] at hs
  refine zKA (X:=zA2 r 6) (Y:=64#8) hs rfl rfl rfl (by decide) rfl ?_
  intro a w hs;refine zA9 (j:=m) hs rfl rfl (zK (hs.mem.del .z)) rfl (by omega) underlying28 sizeOf5 rfl ?_
  intro a w hs;refine zNH hs rfl rfl .z (by omega) rfl sizeOf5 ?_
  refine cl (·.rerow .z (m':=(m+1+(zAj r 6).length)) (xs':=zD ((bs++zA2 r 6::zAj r 6).set m ((zA2 r 6)|||(64#8)))) (rfl) ((zFR _ _ _).symm)) ?_
  refine goL 1 [] [48,1] .n ?_
  refine cl (·.rerow .z (m':=(m+1+(zAj r 6).length)) (xs':=zD (bs++(zA2 r 6|||64#8)::zAj r 6)) (rfl) (by rw [zSM hml])) ?_
  refine go 3 [] [51,48] .n ?_
  intro a w hs;refine zAC hs rfl (hs.mem.keep hg (zDM hr hg (by decide))) (.s (.s (.s (.s (.s (.s (.s (.s .z)))))))) isAgg41 rfl ?_
  intro a w hs;refine zGR (X:=r.a) hs rfl rfl underlying41 underlying252 rfl ?_
  intro a w hs;refine zL hs (.c rfl .n) call201 .n (zEW ((r.a).setWidth 64) _) rfl ?_;clear hs w a;rintro v9 _ a w rfl hs
  replace hs:=hs.rerow .z (m':=(zCX r.a.toNat).length) (xs':=zD (zCX r.a.toNat)) (by rw [zVm];rfl) (by rw [zVm])
  refine zBH (size:=1) (bytes:=1) hs rfl rfl (.s .z) (zK (hs.mem.del .z)) (zAR _) underlying28 (i:=Tryz.t5) rfl rfl rfl rfl rfl (by decide) (by omega) (by simp only [maxLen];omega) rfl ?_;intro v10
  refine goL 3 [] [4] .n ?_
  refine cl (·.drop (.c (.s .z) .n)) ?_
  intro a w hs;replace hs:=hs.rerow .z (m':=m+(zBR r).length) (xs':=zD (bs++zBR r)) (by first | (rw [zBi (by omega)];simp only [List.length_append,List.length_cons];omega) | (rw [zBg (by omega)];simp only [List.length_append,List.length_cons];omega)) (by first | (rw [zBi (by omega)]) | (rw [zBg (by omega)];simp [zD]))
  exact fin hs rfl rfl rfl
 refine go 2 [] [4] .n ?_
 intro a w hs;replace hs:=hs.rerow .z (m':=m+(zBR r).length) (xs':=zD (bs++zBR r)) (by first | (rw [zBi (by omega)];simp only [List.length_append,List.length_cons];omega) | (rw [zBg (by omega)];simp only [List.length_append,List.length_cons];omega)) (by first | (rw [zBi (by omega)]) | (rw [zBg (by omega)];simp [zD]))
 exact fin hs rfl rfl rfl
theorem zRo (v:Value) (m:Nat) (bs:List zQ) (g:Nat) (w0:World) (hr:(row v 5 1 m (zD bs)).p w0):Calls Tryz.prog 250 #[v,pt g 0] w0 (Ret w0 (zN [row v 5 1 m (zD bs)]) λu N=>u=v∧N=[row v 5 1 m (zD bs)]):=by
 refine zG (F0:=[(0,v),(1,pt g 0)]) func250 rfl rfl rfl (.c (.c .n)) (zAq hr zOW) ?_
 refine go 3 [] [4] .n ?_
 intro a w hs;exact fin hs rfl rfl ⟨rfl,rfl⟩
theorem zGJ (w0:World):Calls Tryz.prog 203 #[] w0 (zAh w0 (.agg #[.func (.func 252) #[] #[],.func (.func 253) #[] #[],.func (.func 254) #[] #[],.func (.func 255) #[] #[],.func (.func 250) #[] #[],.func (.func 251) #[] #[],.func (.func 252) #[] #[],.func (.func 253) #[] #[]])):=by
 refine zG (F0:=[]) func203 rfl rfl rfl .n (Mem.nil _) ?_
 refine go 10 [0,0,1] [0] .n (λg1=>λg2=>⟨rfl,rfl,rfl,?_⟩)
 intro a w hs;exact zI0 hs rfl rfl (.s .z) (.z (.c (.c (.c (.c (.c (.c (.c (.c .n))))))))) isAgg307 sizeOf307 (.c (.s .z) (.c .z .n)) ⟨rfl,rfl⟩
theorem zVe (r:zY) (last:Int) (w0:World) (hw:r.wf) (hl : -9223372036854775808≤last∧last≤9223372036854775807):Calls Tryz.prog 145 #[.agg #[zI r.k,zI r.id,zI r.p0,zI r.p1,zI r.p2,zI r.v0,zI r.v1,zI r.v2,.int .u16 (((r.a).toNat:Nat):Int)],.int .i64 last] w0 (Ret w0 [] λu N=>∃ v,u = .tuple #[v,nI (zA6 r last)]∧N=[row v 5 1 (zCk r last).length (zD (zCk r last))]):=by
 have hwf:=hw.facts
 have hva:=zEV r.a.toNat
 have hal:=zJ0 r
 have hsl:=zI1 r
 have hul:=zBY r 6
 have hul0:=zBY r 0
 have hhl:=zIy r last
 have hvX:=zC3 (BitVec.ofInt 64 (r.id-last-1)).toNat
 refine zG (F0:=[(0,.agg #[zI r.k,zI r.id,zI r.p0,zI r.p1,zI r.p2,zI r.v0,zI r.v1,zI r.v2,.int .u16 (((r.a).toNat:Nat):Int)]),(1,zI last)]) func145 rfl rfl rfl (.c (.c .n)) (Mem.nil _) ?_
 refine go 4 [0,0] [8,2,1] .n (λg1=>⟨rfl,?_⟩)
 intro a w hs;refine zB (v:=nI (zAY r)) hs (.c rfl .n) call202 (zWg r _) rfl ?_
 refine goL 3 [] [11,6,2,1] .n ?_
 refine ifG rfl (λc_2=>?_) (λc_2=>?_)
 ·
  refine go 3 [] [5,4] .n ?_
  have hre:zA6 r last=zAY r:=by first | exact zCK (by omega) | exact zCG (by omega) (by omega) | exact zCE (by omega) (by omega) (by omega) | exact zCr (by omega) (by omega) (by omega)
  refine cl (·.drop (.c .z .n)) ?_
  refine cl (·.addNil 5 1) ?_
  intro a w hs;replace hs:=hs.rerow .z (m':=(zCk r last).length) (xs':=zD (zCk r last)) (by rw [zDo (by omega)];rfl) (by rw [zDo (by omega)];rfl)
  exact zBO hs rfl rfl rfl ⟨_,congrArg (λz:Nat=>Value.tuple #[.slice none 0 0,zI (z:Int)]) hre.symm,rfl⟩
 have hck:=zNM (r:=r) (by omega)
 refine go 3 [] [16,2,1] .n ?_
 intro a w hs;refine zX (b:=decide (last<(-1))) (λc_3=>?_) (λc_3=>?_)
 ·
  rw [c_3] at hs
  replace c_3:=of_decide_eq_true c_3
  revert a w hs
  refine go 7 [] [5,4] .n ?_
  have hre:zA6 r last=3:=by first | exact zCK (by omega) | exact zCG (by omega) (by omega) | exact zCE (by omega) (by omega) (by omega) | exact zCr (by omega) (by omega) (by omega)
  refine cl (·.drop (.c .z .n)) ?_
  refine cl (·.addNil 5 1) ?_
  intro a w hs;replace hs:=hs.rerow .z (m':=(zCk r last).length) (xs':=zD (zCk r last)) (by rw [zDo (by omega)];rfl) (by rw [zDo (by omega)];rfl)
  exact zBO hs rfl rfl rfl ⟨_,congrArg (λz:Nat=>Value.tuple #[.slice none 0 0,zI (z:Int)]) hre.symm,rfl⟩
 rw [c_3] at hs
 replace c_3:=of_decide_eq_false c_3
 revert a w hs
 refine go 4 [] [13,2,1] .n ?_
 refine ifG rfl (λc_4=>?_) (λc_4=>?_)
 ·
  refine go 2 [] [5,4] .n ?_
  have hre:zA6 r last=3:=by first | exact zCK (by omega) | exact zCG (by omega) (by omega) | exact zCE (by omega) (by omega) (by omega) | exact zCr (by omega) (by omega) (by omega)
  refine cl (·.drop (.c .z .n)) ?_
  refine cl (·.addNil 5 1) ?_
  intro a w hs;replace hs:=hs.rerow .z (m':=(zCk r last).length) (xs':=zD (zCk r last)) (by rw [zDo (by omega)];rfl) (by rw [zDo (by omega)];rfl)
  exact zBO hs rfl rfl rfl ⟨_,congrArg (λz:Nat=>Value.tuple #[.slice none 0 0,zI (z:Int)]) hre.symm,rfl⟩
 refine go 5 [0] [20,2,1] (.c .z .n) ⟨rfl,?_⟩
 refine ifG rfl (λc_5=>?_) (λc_5=>?_)
 ·
  refine go 2 [] [5,4] .n ?_
  have hre:zA6 r last=10:=by first | exact zCK (by omega) | exact zCG (by omega) (by omega) | exact zCE (by omega) (by omega) (by omega) | exact zCr (by omega) (by omega) (by omega)
  refine cl (·.drop (.c .z .n)) ?_
  refine cl (·.addNil 5 1) ?_
  intro a w hs;replace hs:=hs.rerow .z (m':=(zCk r last).length) (xs':=zD (zCk r last)) (by rw [zDo (by omega)];rfl) (by rw [zDo (by omega)];rfl)
  exact zBO hs rfl rfl rfl ⟨_,congrArg (λz:Nat=>Value.tuple #[.slice none 0 0,zI (z:Int)]) hre.symm,rfl⟩
 refine go 0 [] [2,1] .n ?_
 intro a w hs
 refine zAQ [.p [] [],.p [0] [0],.p [] [],.p [2,1] [],.p [3] [],.v [4] (qI (BitVec.ofInt 64 ((r.id-last)-1))),.x [5] ⟨[],[],[],λvs6=>True,λvs6=>[row (vs6 6) 5 1 (zBd (BitVec.ofInt 64 ((r.id-last)-1)).toNat) (zD (zCX (BitVec.ofInt 64 ((r.id-last)-1)).toNat))],none⟩,.p [] [],.p [7] [0],.v [8] (bI (BitVec.ofInt 8 r.k)),.x [9] ⟨[],[],[],λvs6=>vs6 10 = .slice (some ⟨(zBj (vs6 10)),0,none⟩) 1 1,λvs6=>[blk (zBj (vs6 10)) [bI (BitVec.ofInt 8 r.k)] 5],none⟩,.x [] ⟨[],[6],[],λvs6=>True,λvs6=>[row (vs6 11) 5 1 ((zAe r last).length) (zD (zAe r last))],none⟩,.x [] ⟨[],[],[11],λvs6=>vs6 12=(vs6 11),λvs6=>[],none⟩] [] hs .n .n (.c .z .n) (by kernel_rfl) ⟨rfl,(by omega),(by omega),λ_ _ _ _ hm hs K=>zAg hs rfl underlying3 underlying252 rfl (vk K),rfl,λ_ _ _ _ hm hs K=>zTm hs rfl underlying3 underlying5 rfl (vk K),⟨.n,by kernel_rfl,λ_=>rfl,rfl,rfl⟩,⟨?_,?_,?_,?_,trivial⟩,?_⟩
 ·
  intro a_ w_ R_ rest_ vs6 hm hs ht hx
  have hs0:=hs.bare
  refine zL hs (.c rfl .n) call201 .n (zEW (BitVec.ofInt 64 ((r.id-last)-1)) _) rfl ?_;clear hs;rintro v7 _ a w rfl hs
  exact wpList_nil ⟨rfl,_,_,hs0,(.c .r),hs,trivial⟩
 ·
  intro a_ w_ R_ rest_ vs6 hm hs ht hx
  have hs0:=hs.bare
  refine zHt (cs:=[bI (BitVec.ofInt 8 r.k)]) hs (.c .n) (.c rfl .n) underlying28 (ie:=Tryz.t5) rfl rfl rfl rfl (by decide) (by decide) rfl (by decide) rfl rfl rfl ?_;clear hs;intro g8 a w hs
  exact wpList_nil ⟨rfl,_,_,hs0,(.c .r),hs,rfl⟩
 ·
  intro a_ w_ R_ rest_ vs6 hm hs ht hx
  have t6:=ht 6 (zJ 13 _ (by kernel_rfl))
  have e6:_=some (vs6 6):=t6.val rfl
  replace hs:=hs.learn e6
  have t10:=ht 10 (zJ 13 _ (by kernel_rfl))
  have e10:_=some (vs6 10):=t10.val rfl
  rw [show vs6 10 = .slice (some ⟨(zBj (vs6 10)),0,none⟩) 1 1 from t10.2.1] at e10
  replace hs:=hs.learn e10
  have hs0:=hs.bare
  refine zBH (size:=1) (bytes:=1) hs rfl rfl .z (zAJ (m:=1) (size:=1) (hm.own (List.mem_append.2 (.inr ((ht 10 (zJ 13 _ (by kernel_rfl))).2.2 (zHo (n:=13) (by kernel_rfl)) _ (List.Mem.head _))))) rfl (by decide)) (by simp [Value.oneCell']) underlying28 (i:=Tryz.t5) rfl rfl rfl rfl rfl (by decide) (by omega) (by simp only [maxLen];omega) rfl ?_;clear hs;intro v9 a w hs
  replace hs:=hs.rerow .z (m':=(zAe r last).length) (xs':=zD (zAe r last)) (by unfold zAe;simp only [List.length_append,List.length_cons,List.length_nil,zBd]) (by unfold zAe;rw [zBb];rfl)
  exact wpList_nil ⟨rfl,_,_,hs0,(.c (.c .r)),hs,trivial⟩
 ·
  intro a_ w_ R_ rest_ vs6 hm hs ht hx
  have t11:=ht 11 (zJ 13 _ (by kernel_rfl))
  have e11:_=some (vs6 11):=t11.val rfl
  replace hs:=hs.learn e11
  have hs0:=hs.bare
  refine zEd hs rfl rfl ?_;clear hs;intro a w hs
  exact wpList_nil ⟨rfl,_,_,hs0,(.c .r),hs,rfl⟩
 clear hs w a;intro vs6 a w hs hf
 obtain ⟨e12,q12⟩:=hf 12 (by decide)
 replace e12:_=some (vs6 12):=e12.val rfl
 rw [show vs6 12=(vs6 11) from q12] at e12
 replace hs:=hs.learn e12;clear e12 q12
 generalize zBj (vs6 10)=g10 at hs
 generalize vs6 11=v11 at hs
 clear hf
 revert a w hs
 refine goE 0 [] [7,2] .n ?_
 rcases (show r.k=0∨r.k=1∨r.k=2∨r.k=3 from by omega) with hk12 | hk12 | hk12 | hk12
 ·
  intro a w hs
  refine zAQ [.v [] (.agg #[.func (.func 252) #[] #[],.func (.func 253) #[] #[],.func (.func 254) #[] #[],.func (.func 255) #[] #[],.func (.func 250) #[] #[],.func (.func 251) #[] #[],.func (.func 252) #[] #[],.func (.func 253) #[] #[]]),.p [] [],.v [1] (zI 0),.p [2,0] [],.p [3] [],.p [] [],.x [5,4] ⟨[row v11 5 1 ((zAe r last).length) (zD (zAe r last))],[],[],λvs13=>True,λvs13=>[row (vs13 6) 5 1 (((zAe r last).length)+(zBe r).length) (zD ((zAe r last)++zBe r))],none⟩,.x [] ⟨[],[],[6],λvs13=>vs13 7=(vs13 6),λvs13=>[],none⟩,.p [] []] [8] hs .n (.c (.s (.s .z)) .n) .n (by kernel_rfl) ⟨λ_ _ _ _ hm hs K=>zB (v:=.agg #[.func (.func 252) #[] #[],.func (.func 253) #[] #[],.func (.func 254) #[] #[],.func (.func 255) #[] #[],.func (.func 250) #[] #[],.func (.func 251) #[] #[],.func (.func 252) #[] #[],.func (.func 253) #[] #[]]) hs .n call203 (zGJ _) rfl (vk K),?_,⟨(.c .z .n),by kernel_rfl,λ_=>rfl,rfl,rfl⟩,⟨?_,?_,trivial⟩,?_⟩
  ·
   intro a_ w_ R_ Q_ hm hs K_
   have hm0:=hm
   refine zAC hs rfl (hm0.del .z) .z isAgg3 rfl ?_;clear hs;intro a w hs
   replace hs:=hs.recell (v':=zI 0) (Option.some.inj (congrArg (λz=>some (Value.int .i64 z)) hk12))
   exact wpList_nil (K_ _ _ hs)
  ·
   intro a_ w_ R_ rest_ vs13 hm hs ht hx
   have hm0:=hm.mid
   have hs0:=hs.bare
   refine zBD (us:=[]) hs rfl (.c rfl (.c rfl .n)) rfl call252 (.c .z .n) (zIF _ _ (zAe r last) g1 r _ (hs.mem.del .z) (by omega) (hm0.del .z) hw) rfl ?_;clear hs;rintro v14 _ a w rfl hs
   exact wpList_nil ⟨rfl,_,_,hs0,(.c (.c .r)),hs,trivial⟩
  ·
   intro a_ w_ R_ rest_ vs13 hm hs ht hx
   have t6:=ht 6 (zJ 9 _ (by kernel_rfl))
   have e6:_=some (vs13 6):=t6.val rfl
   replace hs:=hs.learn e6
   have hs0:=hs.bare
   refine zEd hs rfl rfl ?_;clear hs;intro a w hs
   exact wpList_nil ⟨rfl,_,_,hs0,(.c .r),hs,rfl⟩
  clear hs w a;intro vs13 a w hs hf
  obtain ⟨e7,q7⟩:=hf 7 (by decide)
  replace e7:_=some (vs13 7):=e7.val rfl
  rw [show vs13 7=(vs13 6) from q7] at e7
  replace hs:=hs.learn e7;clear e7 q7
  generalize vs13 6=v15 at hs
  clear hf
  revert a w hs
  refine goE 0 [] [4,5] .n ?_
  have hre:zA6 r last=0:=by first | exact zCK (by omega) | exact zCG (by omega) (by omega) | exact zCE (by omega) (by omega) (by omega) | exact zCr (by omega) (by omega) (by omega)
  refine cl (·.drop (.c (.s .z) (.c .z .n))) ?_
  intro a w hs;replace hs:=hs.rerow .z (m':=(zCk r last).length) (xs':=zD (zCk r last)) (by first | ((first | rw [zBQ hre (by omega)] | rw [zAb hre (by omega)] | rw [zA5 hre (by omega)])<;>simp only [List.length_append];done) | ((first | rw [zBQ hre (by omega)] | rw [zAb hre (by omega),zBi (by omega)] | rw [zAb hre (by omega),zBg (by omega)] | rw [zA5 hre (by omega)])<;>simp only [List.length_append,List.length_cons,List.length_nil,zBe,zHF]<;>omega)) (by first | ((first | rw [zBQ hre (by omega)] | rw [zAb hre (by omega)] | rw [zA5 hre (by omega)])<;>rfl) | ((first | rw [zBQ hre (by omega)] | rw [zAb hre (by omega),zBi (by omega)] | rw [zAb hre (by omega),zBg (by omega)] | rw [zA5 hre (by omega)])<;>simp only [zBe,zHF,zD,List.map_append,List.map_cons,List.map_nil,List.append_assoc,List.cons_append,List.nil_append]<;>rfl))
  exact zBO hs rfl rfl rfl ⟨_,congrArg (λz:Nat=>Value.tuple #[v15,zI (z:Int)]) hre.symm,rfl⟩
 ·
  intro a w hs
  refine zAQ [.v [] (.agg #[.func (.func 252) #[] #[],.func (.func 253) #[] #[],.func (.func 254) #[] #[],.func (.func 255) #[] #[],.func (.func 250) #[] #[],.func (.func 251) #[] #[],.func (.func 252) #[] #[],.func (.func 253) #[] #[]]),.p [] [],.v [1] (zI 1),.p [2,0] [],.p [3] [],.p [] [],.x [5,4] ⟨[row v11 5 1 ((zAe r last).length) (zD (zAe r last))],[],[],λvs16=>True,λvs16=>[row (vs16 6) 5 1 (((zAe r last).length)+(zBR r).length) (zD ((zAe r last)++zBR r))],none⟩,.x [] ⟨[],[],[6],λvs16=>vs16 7=(vs16 6),λvs16=>[],none⟩,.p [] []] [8] hs .n (.c (.s (.s .z)) .n) .n (by kernel_rfl) ⟨λ_ _ _ _ hm hs K=>zB (v:=.agg #[.func (.func 252) #[] #[],.func (.func 253) #[] #[],.func (.func 254) #[] #[],.func (.func 255) #[] #[],.func (.func 250) #[] #[],.func (.func 251) #[] #[],.func (.func 252) #[] #[],.func (.func 253) #[] #[]]) hs .n call203 (zGJ _) rfl (vk K),?_,⟨(.c .z .n),by kernel_rfl,λ_=>rfl,rfl,rfl⟩,⟨?_,?_,trivial⟩,?_⟩
  ·
   intro a_ w_ R_ Q_ hm hs K_
   have hm0:=hm
   refine zAC hs rfl (hm0.del .z) .z isAgg3 rfl ?_;clear hs;intro a w hs
   replace hs:=hs.recell (v':=zI 1) (Option.some.inj (congrArg (λz=>some (Value.int .i64 z)) hk12))
   exact wpList_nil (K_ _ _ hs)
  ·
   intro a_ w_ R_ rest_ vs16 hm hs ht hx
   have hm0:=hm.mid
   have hs0:=hs.bare
   refine zBD (us:=[]) hs rfl (.c rfl (.c rfl .n)) rfl call254 (.c .z .n) (zLX _ _ (zAe r last) g1 r _ (hs.mem.del .z) (by omega) (hm0.del .z) hw) rfl ?_;clear hs;rintro v17 _ a w rfl hs
   exact wpList_nil ⟨rfl,_,_,hs0,(.c (.c .r)),hs,trivial⟩
  ·
   intro a_ w_ R_ rest_ vs16 hm hs ht hx
   have t6:=ht 6 (zJ 9 _ (by kernel_rfl))
   have e6:_=some (vs16 6):=t6.val rfl
   replace hs:=hs.learn e6
   have hs0:=hs.bare
   refine zEd hs rfl rfl ?_;clear hs;intro a w hs
   exact wpList_nil ⟨rfl,_,_,hs0,(.c .r),hs,rfl⟩
  clear hs w a;intro vs16 a w hs hf
  obtain ⟨e7,q7⟩:=hf 7 (by decide)
  replace e7:_=some (vs16 7):=e7.val rfl
  rw [show vs16 7=(vs16 6) from q7] at e7
  replace hs:=hs.learn e7;clear e7 q7
  generalize vs16 6=v18 at hs
  clear hf
  revert a w hs
  refine goE 0 [] [4,5] .n ?_
  have hre:zA6 r last=0:=by first | exact zCK (by omega) | exact zCG (by omega) (by omega) | exact zCE (by omega) (by omega) (by omega) | exact zCr (by omega) (by omega) (by omega)
  refine cl (·.drop (.c (.s .z) (.c .z .n))) ?_
  intro a w hs;replace hs:=hs.rerow .z (m':=(zCk r last).length) (xs':=zD (zCk r last)) (by first | ((first | rw [zBQ hre (by omega)] | rw [zAb hre (by omega)] | rw [zA5 hre (by omega)])<;>simp only [List.length_append];done) | ((first | rw [zBQ hre (by omega)] | rw [zAb hre (by omega),zBi (by omega)] | rw [zAb hre (by omega),zBg (by omega)] | rw [zA5 hre (by omega)])<;>simp only [List.length_append,List.length_cons,List.length_nil,zBe,zHF]<;>omega)) (by first | ((first | rw [zBQ hre (by omega)] | rw [zAb hre (by omega)] | rw [zA5 hre (by omega)])<;>rfl) | ((first | rw [zBQ hre (by omega)] | rw [zAb hre (by omega),zBi (by omega)] | rw [zAb hre (by omega),zBg (by omega)] | rw [zA5 hre (by omega)])<;>simp only [zBe,zHF,zD,List.map_append,List.map_cons,List.map_nil,List.append_assoc,List.cons_append,List.nil_append]<;>rfl))
  exact zBO hs rfl rfl rfl ⟨_,congrArg (λz:Nat=>Value.tuple #[v18,zI (z:Int)]) hre.symm,rfl⟩
 ·
  intro a w hs
  refine zAQ [.v [] (.agg #[.func (.func 252) #[] #[],.func (.func 253) #[] #[],.func (.func 254) #[] #[],.func (.func 255) #[] #[],.func (.func 250) #[] #[],.func (.func 251) #[] #[],.func (.func 252) #[] #[],.func (.func 253) #[] #[]]),.p [] [],.v [1] (zI 2),.p [2,0] [],.p [3] [],.p [] [],.x [5,4] ⟨[row v11 5 1 ((zAe r last).length) (zD (zAe r last))],[],[],λvs19=>True,λvs19=>[row (vs19 6) 5 1 ((zAe r last).length) (zD (zAe r last))],none⟩,.x [] ⟨[],[],[6],λvs19=>vs19 7=(vs19 6),λvs19=>[],none⟩,.p [] []] [8] hs .n (.c (.s (.s .z)) .n) .n (by kernel_rfl) ⟨λ_ _ _ _ hm hs K=>zB (v:=.agg #[.func (.func 252) #[] #[],.func (.func 253) #[] #[],.func (.func 254) #[] #[],.func (.func 255) #[] #[],.func (.func 250) #[] #[],.func (.func 251) #[] #[],.func (.func 252) #[] #[],.func (.func 253) #[] #[]]) hs .n call203 (zGJ _) rfl (vk K),?_,⟨(.c .z .n),by kernel_rfl,λ_=>rfl,rfl,rfl⟩,⟨?_,?_,trivial⟩,?_⟩
  ·
   intro a_ w_ R_ Q_ hm hs K_
   have hm0:=hm
   refine zAC hs rfl (hm0.del .z) .z isAgg3 rfl ?_;clear hs;intro a w hs
   replace hs:=hs.recell (v':=zI 2) (Option.some.inj (congrArg (λz=>some (Value.int .i64 z)) hk12))
   exact wpList_nil (K_ _ _ hs)
  ·
   intro a_ w_ R_ rest_ vs19 hm hs ht hx
   have hs0:=hs.bare
   refine zBD (us:=[]) hs rfl (.c rfl (.c rfl .n)) rfl call250 (.c .z .n) (zRo _ _ (zAe r last) g1 _ (hs.mem.del .z)) rfl ?_;clear hs;rintro _ _ a w ⟨rfl,rfl⟩ hs
   exact wpList_nil ⟨rfl,_,_,hs0,(.c (.c .r)),hs,trivial⟩
  ·
   intro a_ w_ R_ rest_ vs19 hm hs ht hx
   have t6:=ht 6 (zJ 9 _ (by kernel_rfl))
   have e6:_=some (vs19 6):=t6.val rfl
   replace hs:=hs.learn e6
   have hs0:=hs.bare
   refine zEd hs rfl rfl ?_;clear hs;intro a w hs
   exact wpList_nil ⟨rfl,_,_,hs0,(.c .r),hs,rfl⟩
  clear hs w a;intro vs19 a w hs hf
  obtain ⟨e7,q7⟩:=hf 7 (by decide)
  replace e7:_=some (vs19 7):=e7.val rfl
  rw [show vs19 7=(vs19 6) from q7] at e7
  replace hs:=hs.learn e7;clear e7 q7
  generalize vs19 6=v20 at hs
  clear hf
  revert a w hs
  refine goE 0 [] [4,5] .n ?_
  have hre:zA6 r last=0:=by first | exact zCK (by omega) | exact zCG (by omega) (by omega) | exact zCE (by omega) (by omega) (by omega) | exact zCr (by omega) (by omega) (by omega)
  refine cl (·.drop (.c (.s .z) (.c .z .n))) ?_
  intro a w hs;replace hs:=hs.rerow .z (m':=(zCk r last).length) (xs':=zD (zCk r last)) (by first | ((first | rw [zBQ hre (by omega)] | rw [zAb hre (by omega)] | rw [zA5 hre (by omega)])<;>simp only [List.length_append];done) | ((first | rw [zBQ hre (by omega)] | rw [zAb hre (by omega),zBi (by omega)] | rw [zAb hre (by omega),zBg (by omega)] | rw [zA5 hre (by omega)])<;>simp only [List.length_append,List.length_cons,List.length_nil,zBe,zHF]<;>omega)) (by first | ((first | rw [zBQ hre (by omega)] | rw [zAb hre (by omega)] | rw [zA5 hre (by omega)])<;>rfl) | ((first | rw [zBQ hre (by omega)] | rw [zAb hre (by omega),zBi (by omega)] | rw [zAb hre (by omega),zBg (by omega)] | rw [zA5 hre (by omega)])<;>simp only [zBe,zHF,zD,List.map_append,List.map_cons,List.map_nil,List.append_assoc,List.cons_append,List.nil_append]<;>rfl))
  exact zBO hs rfl rfl rfl ⟨_,congrArg (λz:Nat=>Value.tuple #[v20,zI (z:Int)]) hre.symm,rfl⟩
 intro a w hs
 refine zAQ [.v [] (.agg #[.func (.func 252) #[] #[],.func (.func 253) #[] #[],.func (.func 254) #[] #[],.func (.func 255) #[] #[],.func (.func 250) #[] #[],.func (.func 251) #[] #[],.func (.func 252) #[] #[],.func (.func 253) #[] #[]]),.p [] [],.v [1] (zI 3),.p [2,0] [],.p [3] [],.p [] [],.x [5,4] ⟨[row v11 5 1 ((zAe r last).length) (zD (zAe r last))],[],[],λvs21=>True,λvs21=>[row (vs21 6) 5 1 (((zAe r last).length)+(zBe r).length) (zD ((zAe r last)++zBe r))],none⟩,.x [] ⟨[],[],[6],λvs21=>vs21 7=(vs21 6),λvs21=>[],none⟩,.p [] []] [8] hs .n (.c (.s (.s .z)) .n) .n (by kernel_rfl) ⟨λ_ _ _ _ hm hs K=>zB (v:=.agg #[.func (.func 252) #[] #[],.func (.func 253) #[] #[],.func (.func 254) #[] #[],.func (.func 255) #[] #[],.func (.func 250) #[] #[],.func (.func 251) #[] #[],.func (.func 252) #[] #[],.func (.func 253) #[] #[]]) hs .n call203 (zGJ _) rfl (vk K),?_,⟨(.c .z .n),by kernel_rfl,λ_=>rfl,rfl,rfl⟩,⟨?_,?_,trivial⟩,?_⟩
 ·
  intro a_ w_ R_ Q_ hm hs K_
  have hm0:=hm
  refine zAC hs rfl (hm0.del .z) .z isAgg3 rfl ?_;clear hs;intro a w hs
  replace hs:=hs.recell (v':=zI 3) (Option.some.inj (congrArg (λz=>some (Value.int .i64 z)) hk12))
  exact wpList_nil (K_ _ _ hs)
 ·
  intro a_ w_ R_ rest_ vs21 hm hs ht hx
  have hm0:=hm.mid
  have hs0:=hs.bare
  refine zBD (us:=[]) hs rfl (.c rfl (.c rfl .n)) rfl call252 (.c .z .n) (zIF _ _ (zAe r last) g1 r _ (hs.mem.del .z) (by omega) (hm0.del .z) hw) rfl ?_;clear hs;rintro v22 _ a w rfl hs
  exact wpList_nil ⟨rfl,_,_,hs0,(.c (.c .r)),hs,trivial⟩
 ·
  intro a_ w_ R_ rest_ vs21 hm hs ht hx
  have t6:=ht 6 (zJ 9 _ (by kernel_rfl))
  have e6:_=some (vs21 6):=t6.val rfl
  replace hs:=hs.learn e6
  have hs0:=hs.bare
  refine zEd hs rfl rfl ?_;clear hs;intro a w hs
  exact wpList_nil ⟨rfl,_,_,hs0,(.c .r),hs,rfl⟩
 clear hs w a;intro vs21 a w hs hf
 obtain ⟨e7,q7⟩:=hf 7 (by decide)
 replace e7:_=some (vs21 7):=e7.val rfl
 rw [show vs21 7=(vs21 6) from q7] at e7
 replace hs:=hs.learn e7;clear e7 q7
 generalize vs21 6=v23 at hs
 clear hf
 revert a w hs
 refine goE 0 [] [4,5] .n ?_
 have hre:zA6 r last=0:=by first | exact zCK (by omega) | exact zCG (by omega) (by omega) | exact zCE (by omega) (by omega) (by omega) | exact zCr (by omega) (by omega) (by omega)
 refine cl (·.drop (.c (.s .z) (.c .z .n))) ?_
 intro a w hs;replace hs:=hs.rerow .z (m':=(zCk r last).length) (xs':=zD (zCk r last)) (by first | ((first | rw [zBQ hre (by omega)] | rw [zAb hre (by omega)] | rw [zA5 hre (by omega)])<;>simp only [List.length_append];done) | ((first | rw [zBQ hre (by omega)] | rw [zAb hre (by omega),zBi (by omega)] | rw [zAb hre (by omega),zBg (by omega)] | rw [zA5 hre (by omega)])<;>simp only [List.length_append,List.length_cons,List.length_nil,zBe,zHF]<;>omega)) (by first | ((first | rw [zBQ hre (by omega)] | rw [zAb hre (by omega)] | rw [zA5 hre (by omega)])<;>rfl) | ((first | rw [zBQ hre (by omega)] | rw [zAb hre (by omega),zBi (by omega)] | rw [zAb hre (by omega),zBg (by omega)] | rw [zA5 hre (by omega)])<;>simp only [zBe,zHF,zD,List.map_append,List.map_cons,List.map_nil,List.append_assoc,List.cons_append,List.nil_append]<;>rfl))
 exact zBO hs rfl rfl rfl ⟨_,congrArg (λz:Nat=>Value.tuple #[v23,zI (z:Int)]) hre.symm,rfl⟩
theorem zYc (s:BitVec 32) (c:zQ) (w0:World):Calls Tryz.prog 257 #[.int .u32 (s.toNat:Int),.int .u8 (c.toNat:Int)] w0 (zAh w0 (.int .u32 ((zRC s c).toNat:Int))):=by
 refine zG (F0:=[(0,.int .u32 (((s).toNat:Nat):Int)),(1,bI c)]) func257 rfl rfl rfl (.c (.c .n)) (Mem.nil _) ?_
 refine go 3 [] [6,5] .n ?_
 intro a w hs;refine zG7 (X:=c) hs rfl rfl underlying5 underlying230 rfl ?_
 intro a w hs;refine zJD (X:=s) (Y:=(c).setWidth 32) hs rfl rfl rfl rfl rfl ?_
 refine goL 2 [] [9,0] .n ?_
 intro a w hs;refine zCC (λmm_ a w=>∃ k:Nat,mm_=8-k∧St 20 [(0,.int .u32 (((zKh k (s^^^c.setWidth 32)).toNat:Nat):Int)),(9,zI (k:Int))] w0 [] [] a w∧k≤8) ⟨0,rfl,hs.sub (.c rfl (.c rfl .n)),by omega⟩ ?_
 clear hs w a;rintro mm_ a w ⟨k,rfl,hs,hI1_0⟩
 revert a w hs
 refine go 1 [] [10,0,9] .n ?_
 refine ifG rfl (λc_1=>?_) (λc_1=>?_)
 ·
  refine go 1 [] [11,0,9] .n ?_
  intro a w hs;refine zFC (X:=zKh k (s^^^c.setWidth 32)) (m:=1) hs rfl rfl rfl (by decide) rfl ?_
  refine goL 1 [] [13,12,9] .n ?_
  intro a w hs;refine zJS (X:=zKh k (s^^^c.setWidth 32)) (Y:=1#32) hs rfl rfl rfl (by decide) rfl ?_
  intro a w hs;refine zPB (X:=(zKh k (s^^^c.setWidth 32))&&&(1#32)) hs rfl rfl rfl ?_
  intro a w hs;refine zJS (X:=3988292384#32) (Y:=-((zKh k (s^^^c.setWidth 32))&&&(1#32))) hs rfl (by decide) rfl rfl rfl ?_
  intro a w hs;refine zJD (X:=(zKh k (s^^^c.setWidth 32))>>>1) (Y:=(3988292384#32)&&&(-((zKh k (s^^^c.setWidth 32))&&&(1#32)))) hs rfl rfl rfl rfl rfl ?_
  refine goL 3 [] [9,0] .n ⟨(by omega),?_⟩
  intro a w hs;refine ⟨_,?_,k+1,rfl,hs.sub (.c rfl (.c rfl .n)),by omega⟩
  omega
 refine go 2 [] [4] .n ?_
 intro a w hs;exact fin hs rfl rfl ⟨by have h:k=8:=(by omega);subst h;rfl,rfl⟩
theorem zV6 (s:BitVec 32) (c:zQ) (g:Nat) (w0:World) (hb:(blk g [.int .u32 (s.toNat:Int)] 230).p w0):Calls Tryz.prog 256 #[.int .u8 (c.toNat:Int),pt g 0] w0 (Ret w0 (zN [blk g [.int .u32 (s.toNat:Int)] 230]) λv N=>v = .tuple #[]∧N=[blk g [.int .u32 ((zRC s c).toNat:Int)] 230]):=by
 refine zG (F0:=[(0,bI c),(1,pt g 0)]) func256 rfl rfl rfl (.c (.c .n)) (zAq hb) ?_
 refine go 2 [0] [4,3,1] (.c .z .n) ⟨rfl,?_⟩
 intro a w hs;refine zB (v:=.int .u32 (((zRC s c).toNat:Nat):Int)) hs (.c rfl (.c rfl .n)) call257 (zYc s c _) rfl ?_
 refine goL 1 [0] [] (.c .z .n) ⟨rfl,?_⟩
 intro a w hs;exact zIo hs rfl ⟨rfl,rfl⟩
theorem zXd (s:BitVec 32) (v:Value) (m:Nat) (bs:List zQ) (w0:World) (hb:Rd w0 [] v 1 m (zD bs)):Calls Tryz.prog 204 #[.int .u32 (s.toNat:Int),v] w0 (zAh w0 (.int .u32 ((zMe s bs).toNat:Int))):=by
 have hbl:bs.length=m:=by have:=hb.len;simpa [zD] using this
 have hle:m≤maxLen:=hb.le
 simp only [maxLen] at hle
 refine zG (F0:=[(0,.int .u32 (((s).toNat:Nat):Int)),(1,v)]) func204 rfl rfl rfl (.c (.c .n)) (Mem.nil _) ?_
 refine go 2 [] [9,1] .n ?_
 intro a w hs;refine zJd (X:=s) hs rfl rfl rfl ?_
 refine goL 5 [0] [12,6,5] .n (λg1=>⟨rfl,?_⟩)
 intro a w hs;refine zAG hs rfl (hs.rd0 hb).isSl underlying28 rfl ?_
 refine goL 1 [] [14,13,12,6,5] .n ?_
 intro a w hs;refine zCC (λmm_ a w=>∃ k:Nat,mm_=m-k∧St 24 [(5,pt g1 0),(6,.func (.func 256) #[] #[pt g1 0]),(12,v),(13,zI (m:Int)),(14,zI (k:Int))] w0 [] [blk g1 [.int .u32 (((zM0 (~~~s) (bs.take k)).toNat:Nat):Int)] 230] a w∧k≤m) ⟨0,rfl,hs.sub (.c rfl (.c rfl (.c rfl (.c rfl (.c rfl .n))))),by omega⟩ ?_
 clear hs w a;rintro mm_ a w ⟨k,rfl,hs,hI1_0⟩
 revert a w hs
 refine go 1 [] [15,5,6,12,13,14] .n ?_
 refine ifG rfl (λc_2=>?_) (λc_2=>?_)
 ·
  refine go 0 [] [5,6,12,13,14] .n ?_
  intro a w hs;refine zA9 (j:=k) hs rfl rfl (hs.rd0 hb) rfl (by omega) underlying28 sizeOf5 rfl ?_
  intro a w hs;refine zBf hs rfl (hs.rd0 hb) (zB9 bs (by first | omega | (simp;omega))) isAgg5 rfl ?_
  refine goL 3 [] [19,18,5,6,12,13,14] .n ?_
  intro a w hs;refine zQh hs rfl (.c rfl .n) rfl call256 (.c .z .n) (zV6 (zM0 (~~~s) (bs.take k)) (bs.getD k 0) g1 _ (hs.mem.del .z)) rfl ?_
  refine goL 2 [] [14,5,6,12,13] .n ⟨(by omega),?_⟩
  intro a w hs;rw [← zPZ _ _ _ (by omega)] at hs
  refine ⟨_,?_,k+1,rfl,hs.sub (.c rfl (.c rfl (.c rfl (.c rfl (.c rfl .n))))),by omega⟩
  omega
 refine go 1 [0] [22] (.c .z .n) ⟨rfl,?_⟩
 intro a w hs;refine zJd (X:=zM0 (~~~s) (bs.take k)) hs rfl rfl rfl ?_
 refine goL 1 [] [4] .n ?_
 refine cl (·.drop (.c .z .n)) ?_
 intro a w hs;exact fin hs rfl rfl ⟨by have h:k=m:=(by omega);subst h;rw [← hbl,List.take_length];rfl,rfl⟩
theorem zWQ (v:Value) (m:Nat) (bs:List zQ) (w0:World) (hb:Rd w0 [] v 1 m (zD bs)):Calls Tryz.prog 146 #[v] w0 (zAh w0 (.int .u32 ((zCa bs).toNat:Int))):=by
 refine zG (F0:=[(0,v)]) func146 rfl rfl rfl (.c .n) (Mem.nil _) ?_
 refine go 2 [] [3] .n ?_
 intro a w hs;refine zB (v:=.int .u32 (((zMe (0#32) bs).toNat:Nat):Int)) hs (.c rfl (.c rfl .n)) call204 (zXd (0#32) _ _ bs _ (hs.rd0 hb)) rfl ?_
 refine goL 1 [] [2] .n ?_
 intro a w hs;exact fin hs rfl rfl ⟨rfl,rfl⟩
theorem zYx (v:Value) (m:Nat) (bs:List zQ) (w0:World) (hb:Rd w0 [] v 1 m (zD bs)) (hm:m≤140737488351232):Calls Tryz.prog 98 #[v] w0 (Ret w0 [] λr N=>N=[row r 5 1 (m+4) (zD (zGx bs))]):=by
 have hbl:bs.length=m:=by have:=hb.len;simpa [zD] using this
 have hle:m≤maxLen:=hb.le
 simp only [maxLen] at hle
 refine zG (F0:=[(0,v)]) func98 rfl rfl rfl (.c .n) (Mem.nil _) ?_
 refine go 2 [] [4,0] .n ?_
 intro a w hs;refine zB (v:=.int .u32 (((zCa bs).toNat:Nat):Int)) hs (.c rfl .n) call146 (zWQ _ _ bs _ (hs.rd0 hb)) rfl ?_
 refine goL 1 [] [3,0] .n ?_
 intro a w hs;refine zQ3 hs underlying28 rfl ?_ ⟨_,sizeOf5⟩;intro g1
 refine goL 1 [] [7,6,3] .n ?_
 refine cl (·.toRow (size:=1) (m:=0) .z rfl (by decide)) ?_
 intro a w hs;refine zBH (size:=1) (bytes:=1) hs rfl rfl .z (hs.rd0 hb) (zAR _) underlying28 (i:=Tryz.t5) rfl rfl rfl rfl rfl (by decide) (by omega) (by simp only [maxLen];omega) rfl ?_;intro v2
 refine goL 1 [] [9,8,3] .n ?_
 intro a w hs;refine zFC (X:=zCa bs) (m:=24) hs rfl rfl rfl (by decide) rfl ?_
 intro a w hs;refine zDg (X:=(zCa bs)>>>24) hs rfl rfl underlying230 underlying5 rfl ?_
 refine goL 1 [] [12,11,8,3] .n ?_
 intro a w hs;refine zFC (X:=zCa bs) (m:=16) hs rfl rfl rfl (by decide) rfl ?_
 intro a w hs;refine zDg (X:=(zCa bs)>>>16) hs rfl rfl underlying230 underlying5 rfl ?_
 refine goL 1 [] [15,14,11,8,3] .n ?_
 intro a w hs;refine zFC (X:=zCa bs) (m:=8) hs rfl rfl rfl (by decide) rfl ?_
 intro a w hs;refine zDg (X:=(zCa bs)>>>8) hs rfl rfl underlying230 underlying5 rfl ?_
 refine goL 1 [] [18,17,14,11,8] .n ?_
 intro a w hs;refine zDg (X:=zCa bs) hs rfl rfl underlying230 underlying5 rfl ?_
 refine goL 1 [] [20,8] .n (λg3=>?_)
 intro a w hs;refine zBH (size:=1) (bytes:=1) hs rfl rfl (.s .z) (zAJ (m:=4) (size:=1) (hs.mem.del .z) rfl (by decide)) (by simp [Value.oneCell']) underlying28 (i:=Tryz.t5) rfl rfl rfl rfl rfl (by decide) (by omega) (by simp only [maxLen];omega) rfl ?_;intro v4
 refine cl (·.drop (.c (.s .z) .n)) ?_
 refine goL 1 [] [2] .n ?_
 intro a w hs;replace hs:=hs.rerow .z (m':=m+4) (xs':=zD (zGx bs)) (by omega) (by rw [List.nil_append];exact (zBb bs (be4 (zCa bs))).symm)
 exact fin hs rfl rfl rfl
def zEN (bs:List zQ) (v:Value) (N:List HA):Prop:=match zCy bs with
 | none=>v = .tuple #[.slice none 0 0,.bool false]∧N=[]
 | some x=>∃ r,v = .tuple #[r,.bool true]∧N=[row r 5 1 x.length (zD x)]
theorem zC9 {bs:List zQ} (h:zCy bs=none):zEN bs (.tuple #[.slice none 0 0,.bool false]) []:=by unfold zEN;rw [h];exact ⟨rfl,rfl⟩
theorem zKC {bs x:List zQ} (h:zCy bs=some x) (r:Value):zEN bs (.tuple #[r,.bool true]) [row r 5 1 x.length (zD x)]:=by unfold zEN;rw [h];exact ⟨r,rfl,rfl⟩
theorem zJW {bs:List zQ} (h:bs.length<4):zCy bs=none:=by unfold zCy;rw [if_pos h]
theorem zZV {bs:List zQ} (h:¬ bs.length<4) (h2:beN (bs.drop (bs.length-4))≠zCa (bs.take (bs.length-4))):zCy bs=none:=by unfold zCy;rw [if_neg h,if_neg h2]
theorem zVE {bs:List zQ} (h:¬ bs.length<4) (h2:beN (bs.drop (bs.length-4))=zCa (bs.take (bs.length-4))):zCy bs=some (bs.take (bs.length-4)):=by unfold zCy;rw [if_neg h,if_pos h2]
theorem zNO {bs:List zQ} {m k:Nat} (hl:bs.length=m) (h4:4≤m) (h:(((beN ((bs.drop (m-4)).take k)).toNat:Nat):Int)≠(((zCa (bs.take (m-4))).toNat:Nat):Int)) (hk:k=m-(m-4)):zCy bs=none:=by
 subst hl
 rw [List.take_of_length_le (by simp;omega)] at h
 exact zZV (by omega) (λe=>h (by rw [e]))
theorem zRM {bs:List zQ} {m k:Nat} (hl:bs.length=m) (h4:4≤m) (h:(((beN ((bs.drop (m-4)).take k)).toNat:Nat):Int)=(((zCa (bs.take (m-4))).toNat:Nat):Int)) (hk:k=m-(m-4)):zCy bs=some (bs.take (m-4)):=by
 subst hl
 rw [List.take_of_length_le (by simp;omega)] at h
 exact zVE (by omega) (BitVec.eq_of_toNat_eq (by omega))
theorem zP4 (v:Value) (m:Nat) (bs:List zQ) (w0:World) (hb:Rd w0 [] v 1 m (zD bs)) (hm:m≤140737488351232):Calls Tryz.prog 178 #[v] w0 (Ret w0 [] (zEN bs)):=by
 have hbl:bs.length=m:=by have:=hb.len;simpa [zD] using this
 have hle:m≤maxLen:=hb.le
 simp only [maxLen] at hle
 refine zG (F0:=[(0,v)]) func178 rfl rfl rfl (.c .n) (Mem.nil _) ?_
 refine go 3 [] [8,0] .n ?_
 intro a w hs;refine zAG hs rfl (hs.rd0 hb).isSl underlying28 rfl ?_
 refine goL 4 [] [12,4,0] .n ⟨(by omega),?_⟩
 refine ifG rfl (λc_1=>?_) (λc_1=>?_)
 ·
  refine go 2 [] [3,2] .n ?_
  intro a w hs;first | exact zBO hs rfl rfl rfl (zC9 (zJW (by omega))) | exact zBO hs rfl rfl rfl (zC9 (zNO hbl (by omega) (by assumption) (by omega)))
 have hv_:((m:Int)-4:Int)=(((m-4:Nat):Int):Int):=by omega
 intro a w hs;rw [hv_] at hs;clear hv_
 revert a w hs
 refine go 3 [] [14,13,5,4,0] .n ?_
 intro a w hs;refine zH1 (j:=(m-4)) hs rfl rfl rfl (hs.rd0 hb).isSl (by omega) underlying28 sizeOf5 rfl ?_
 intro a w hs;refine zAG hs rfl ((hs.rd0 hb).slcL (l:=(m-4)) (by omega)).isSl underlying28 rfl ?_
 refine goL 1 [] [17,16,15,5,4,0] .n ?_
 intro a w hs;refine zCC (λmm_ a w=>∃ k:Nat,mm_=m-k∧St 38 [(0,v),(4,nI (m-4)),(5,.int .u32 (((beN ((bs.drop (m-4)).take k)).toNat:Nat):Int)),(15,zFt v 1 (m-4) m),(16,nI (m-(m-4))),(17,zI (k:Int))] w0 [] [] a w∧k≤m-(m-4)) ⟨0,rfl,hs.sub (.c rfl (.c rfl (.c rfl (.c rfl (.c rfl (.c rfl .n)))))),by omega⟩ ?_
 clear hs w a;rintro mm_ a w ⟨k,rfl,hs,hI1_0⟩
 revert a w hs
 refine go 1 [] [18,0,4,5,15,16,17] .n ?_
 refine ifG rfl (λc_2=>?_) (λc_2=>?_)
 ·
  refine go 0 [] [0,4,5,15,16,17] .n ?_
  intro a w hs;refine zA9 (j:=k) hs rfl rfl ((hs.rd0 hb).slcL (l:=(m-4)) (by omega)) rfl (by omega) underlying28 sizeOf5 rfl ?_
  intro a w hs;refine zBf hs rfl ((hs.rd0 hb).slcL (l:=(m-4)) (by omega)) (zB9 (bs.drop (m-4)) (by first | omega | (simp;omega))) isAgg5 rfl ?_
  refine goL 2 [] [21,7,0,4,15,16,17] .n ?_
  intro a w hs;refine zPg (X:=beN ((bs.drop (m-4)).take k)) (m:=8) hs rfl rfl rfl (by decide) rfl ?_
  refine goL 1 [] [23,22,0,4,15,16,17] .n ?_
  intro a w hs;refine zG7 (X:=(bs.drop (m-4)).getD k 0) hs rfl rfl underlying5 underlying230 rfl ?_
  intro a w hs;refine zP1 (X:=(beN ((bs.drop (m-4)).take k))<<<8) (Y:=((bs.drop (m-4)).getD k 0).setWidth 32) hs rfl rfl rfl rfl rfl ?_
  refine goL 3 [] [17,5,0,4,15,16] .n ⟨(by omega),?_⟩
  intro a w hs;rw [← zUr _ _ (by simp;omega)] at hs
  refine ⟨_,?_,k+1,rfl,hs.sub (.c rfl (.c rfl (.c rfl (.c rfl (.c rfl (.c rfl .n)))))),by omega⟩
  omega
 refine go 3 [] [29,28,27,0,4] .n ?_
 intro a w hs;refine zMw (j:=(m-4)) hs rfl rfl rfl (hs.rd0 hb) (by omega) underlying28 sizeOf5 rfl ?_
 intro a w hs;refine zB (v:=.int .u32 (((zCa (bs.take (m-4))).toNat:Nat):Int)) hs (.c rfl .n) call146 (zWQ _ _ (bs.take (m-4)) _ ((hs.rd0 hb).slcT (h:=(m-4)) (by omega))) rfl ?_
 refine goL 1 [] [32,0,4] .n ?_
 refine ifG rfl (λc_3=>?_) (λc_3=>?_)
 ·
  refine go 2 [] [3,2] .n ?_
  intro a w hs;first | exact zBO hs rfl rfl rfl (zC9 (zJW (by omega))) | exact zBO hs rfl rfl rfl (zC9 (zNO hbl (by omega) (by assumption) (by omega)))
 refine go 0 [] [0,4] .n ?_
 intro a w hs;refine zQ3 hs underlying28 rfl ?_ ⟨_,sizeOf5⟩;intro g4
 refine goL 2 [] [35,34,33] .n ?_
 intro a w hs;refine zMw (j:=(m-4)) hs rfl rfl rfl (hs.rd0 hb) (by omega) underlying28 sizeOf5 rfl ?_
 refine cl (·.toRow (size:=1) (m:=0) .z rfl (by decide)) ?_
 intro a w hs;refine zBH (size:=1) (bytes:=1) hs rfl rfl .z ((hs.rd0 hb).slcT (h:=(m-4)) (by omega)) (zAR _) underlying28 (i:=Tryz.t5) rfl rfl rfl rfl rfl (by decide) (by omega) (by simp only [maxLen];omega) rfl ?_;intro v5
 refine goL 2 [] [3,2] .n ?_
 intro a w hs;replace hs:=hs.rerow .z (m':=(bs.take (m-4)).length) (xs':=zD (bs.take (m-4))) (by simp;omega) (by rw [List.nil_append])
 exact zBO hs rfl rfl rfl (zKC (zRM hbl (by omega) (by assumption) (by omega)) _)
theorem zQ6 (v:Value) (m:Nat) (bs:List zQ) (w0:World) (hb:Rd w0 [] v 1 m (zD bs)) (hm:m≤140737488351232) (h:zCy bs=none):Calls Tryz.prog 178 #[v] w0 (zAh w0 (.tuple #[.slice none 0 0,.bool false])) :=
 (zP4 v m bs w0 hb hm).mono λe w' ⟨u,N,he,hp,hM⟩=>⟨u,N,he,by unfold zEN at hp;rw [h] at hp;exact hp,hM⟩
theorem zQG (v:Value) (m:Nat) (bs:List zQ) (w0:World) (hb:Rd w0 [] v 1 m (zD bs)) (x:List zQ) (hm:m≤140737488351232) (h:zCy bs=some x):Calls Tryz.prog 178 #[v] w0 (Ret w0 [] λu N=>∃ r,u = .tuple #[r,.bool true]∧N=[row r 5 1 x.length (zD x)]) :=
 (zP4 v m bs w0 hb hm).mono λe w' ⟨u,N,he,hp,hM⟩=>⟨u,N,he,by unfold zEN at hp;rw [h] at hp;exact hp,hM⟩
end Go.Proofs.YtljpfgacpofkpaaGreat
