import Derived.Test.YtajjkegcfmhghaaGreatQG13
import Derived.Test.YtajjkegcfmhghaaGreatQSxBasB
import Derived.Test.YtajjkegcfmhghaaGreatQSxRecs
import Derived.Test.YtajjkegcfmhghaaGreatQSxGrams
import Derived.KernelRfl
import Derived.Test.YtajjkegcfmhghaaGreatProg
set_option linter.unusedVariables false
set_option linter.unusedSimpArgs false
namespace Go.Proofs.YtajjkegcfmhghaaGreat
open Tryz
open Go Go.Sx Go.RowKit
set_option maxRecDepth 4000
set_option maxHeartbeats 1000000
theorem zXh (r:zW) (w0:World):Calls Tryz.prog 91 #[.agg #[zI r.k,zI r.id,zI r.p0,zI r.p1,zI r.p2,zI r.v0,zI r.v1,zI r.v2,.int .u16 (((r.a).toNat:Nat):Int)]] w0 (zAf w0 (nI (zAK r))):=by
 refine zG (F0:=[(0,.agg #[zI r.k,zI r.id,zI r.p0,zI r.p1,zI r.p2,zI r.v0,zI r.v1,zI r.v2,.int .u16 (((r.a).toNat:Nat):Int)])]) func91 rfl rfl rfl (.c .n) (Mem.nil _) ?_
 refine go 13 [0,0,0,0,1] [13,3,1] .n (λg1=>⟨rfl,rfl,λg2=>⟨rfl,rfl,?_⟩⟩)
 intro a w hs;refine zY (b:=decide (r.k<0)) (λc_3=>?_) (λc_3=>?_)
 ·
  rw [c_3] at hs
  replace c_3:=of_decide_eq_true c_3
  revert a w hs
  refine go 7 [] [2] .n ?_
  refine cl (·.drop (.c (.s .z) (.c .z .n))) ?_
  intro a w hs;exact fin hs rfl rfl ⟨congrArg (Value.int .i64) (by unfold zAK;first | (rw [if_pos (by omega)];rfl) | (rw [if_neg (by omega),if_pos (by omega)];rfl) | (rw [if_neg (by omega),if_neg (by omega),if_pos (by first | exact .inl ⟨by omega,by assumption⟩ | exact .inr ⟨by omega,by assumption⟩)];rfl) | (rw [if_neg (by omega),if_neg (by omega),if_neg (by rintro (⟨_,h_⟩ | ⟨_,h_⟩)<;>first | omega | simp_all)];rfl)),rfl⟩
 rw [c_3] at hs
 replace c_3:=of_decide_eq_false c_3
 revert a w hs
 refine go 5 [0] [9,3,1] (.c (.s .z) .n) ⟨rfl,?_⟩
 refine ifG rfl (λc_4=>?_) (λc_4=>?_)
 ·
  refine go 1 [] [2] .n ?_
  refine cl (·.drop (.c (.s .z) (.c .z .n))) ?_
  intro a w hs;exact fin hs rfl rfl ⟨congrArg (Value.int .i64) (by unfold zAK;first | (rw [if_pos (by omega)];rfl) | (rw [if_neg (by omega),if_pos (by omega)];rfl) | (rw [if_neg (by omega),if_neg (by omega),if_pos (by first | exact .inl ⟨by omega,by assumption⟩ | exact .inr ⟨by omega,by assumption⟩)];rfl) | (rw [if_neg (by omega),if_neg (by omega),if_neg (by rintro (⟨_,h_⟩ | ⟨_,h_⟩)<;>first | omega | simp_all)];rfl)),rfl⟩
 refine go 4 [0] [22,3,1] (.c .z .n) ⟨rfl,?_⟩
 intro a w hs;refine zY (b:=decide (r.id<0)) (λc_5=>?_) (λc_5=>?_)
 ·
  rw [c_5] at hs
  replace c_5:=of_decide_eq_true c_5
  revert a w hs
  refine go 7 [] [2] .n ?_
  refine cl (·.drop (.c (.s .z) (.c .z .n))) ?_
  intro a w hs;exact fin hs rfl rfl ⟨congrArg (Value.int .i64) (by unfold zAK;first | (rw [if_pos (by omega)];rfl) | (rw [if_neg (by omega),if_pos (by omega)];rfl) | (rw [if_neg (by omega),if_neg (by omega),if_pos (by first | exact .inl ⟨by omega,by assumption⟩ | exact .inr ⟨by omega,by assumption⟩)];rfl) | (rw [if_neg (by omega),if_neg (by omega),if_neg (by rintro (⟨_,h_⟩ | ⟨_,h_⟩)<;>first | omega | simp_all)];rfl)),rfl⟩
 rw [c_5] at hs
 replace c_5:=of_decide_eq_false c_5
 revert a w hs
 refine go 5 [0] [18,3,1] (.c .z .n) ⟨rfl,?_⟩
 refine ifG rfl (λc_6=>?_) (λc_6=>?_)
 ·
  refine go 1 [] [2] .n ?_
  refine cl (·.drop (.c (.s .z) (.c .z .n))) ?_
  intro a w hs;exact fin hs rfl rfl ⟨congrArg (Value.int .i64) (by unfold zAK;first | (rw [if_pos (by omega)];rfl) | (rw [if_neg (by omega),if_pos (by omega)];rfl) | (rw [if_neg (by omega),if_neg (by omega),if_pos (by first | exact .inl ⟨by omega,by assumption⟩ | exact .inr ⟨by omega,by assumption⟩)];rfl) | (rw [if_neg (by omega),if_neg (by omega),if_neg (by rintro (⟨_,h_⟩ | ⟨_,h_⟩)<;>first | omega | simp_all)];rfl)),rfl⟩
 refine go 4 [0] [31,3,1] (.c .z .n) ⟨rfl,?_⟩
 intro a w hs;refine zY (b:=(r.k:Int)==1) (λc_7=>?_) (λc_7=>?_)
 ·
  rw [c_7] at hs
  replace c_7:=eq_of_beq c_7
  revert a w hs
  refine go 3 [0,1] [34,31,3,1] (.c .z (.c .z .n)) ⟨rfl,rfl,by kernel_rfl,?_⟩
  intro a w hs;rw [show zAD _ _=zAm r from zNn r] at hs
  revert a w hs
  refine go 2 [] [27,3,1] .n ?_
  refine ifG rfl (λc_8=>?_) (λc_8=>?_)
  ·
   refine go 0 [] [27] .n ?_
   refine ifG rfl (λc_9=>?_) (λc_9=>?_)
   ·
    refine go 1 [] [2] .n ?_
    refine cl (·.drop (.c (.s .z) (.c .z .n))) ?_
    intro a w hs;exact fin hs rfl rfl ⟨congrArg (Value.int .i64) (by unfold zAK;first | (rw [if_pos (by omega)];rfl) | (rw [if_neg (by omega),if_pos (by omega)];rfl) | (rw [if_neg (by omega),if_neg (by omega),if_pos (by first | exact .inl ⟨by omega,by assumption⟩ | exact .inr ⟨by omega,by assumption⟩)];rfl) | (rw [if_neg (by omega),if_neg (by omega),if_neg (by rintro (⟨_,h_⟩ | ⟨_,h_⟩)<;>first | omega | simp_all)];rfl)),rfl⟩
   refine go 1 [] [2] .n ?_
   refine cl (·.drop (.c (.s .z) (.c .z .n))) ?_
   intro a w hs;exact fin hs rfl rfl ⟨congrArg (Value.int .i64) (by unfold zAK;first | (rw [if_pos (by omega)];rfl) | (rw [if_neg (by omega),if_pos (by omega)];rfl) | (rw [if_neg (by omega),if_neg (by omega),if_pos (by first | exact .inl ⟨by omega,by assumption⟩ | exact .inr ⟨by omega,by assumption⟩)];rfl) | (rw [if_neg (by omega),if_neg (by omega),if_neg (by rintro (⟨_,h_⟩ | ⟨_,h_⟩)<;>first | omega | simp_all)];rfl)),rfl⟩
  refine go 4 [0] [39,3,1] (.c .z .n) ⟨rfl,?_⟩
  intro a w hs;refine zY (b:=(r.k:Int)==2) (λc_10=>?_) (λc_10=>?_)
  ·
   rw [c_10] at hs
   replace c_10:=eq_of_beq c_10
   revert a w hs
   refine go 3 [0,1] [42,39] (.c .z (.c .z .n)) ⟨rfl,rfl,by kernel_rfl,?_⟩
   intro a w hs;rw [show zAD _ _=zAm r from zNn r] at hs
   revert a w hs
   refine go 2 [] [27] .n ?_
   refine ifG rfl (λc_11=>?_) (λc_11=>?_)
   ·
    refine go 1 [] [2] .n ?_
    refine cl (·.drop (.c (.s .z) (.c .z .n))) ?_
    intro a w hs;exact fin hs rfl rfl ⟨congrArg (Value.int .i64) (by unfold zAK;first | (rw [if_pos (by omega)];rfl) | (rw [if_neg (by omega),if_pos (by omega)];rfl) | (rw [if_neg (by omega),if_neg (by omega),if_pos (by first | exact .inl ⟨by omega,by assumption⟩ | exact .inr ⟨by omega,by assumption⟩)];rfl) | (rw [if_neg (by omega),if_neg (by omega),if_neg (by rintro (⟨_,h_⟩ | ⟨_,h_⟩)<;>first | omega | simp_all)];rfl)),rfl⟩
   refine go 1 [] [2] .n ?_
   refine cl (·.drop (.c (.s .z) (.c .z .n))) ?_
   intro a w hs;exact fin hs rfl rfl ⟨congrArg (Value.int .i64) (by unfold zAK;first | (rw [if_pos (by omega)];rfl) | (rw [if_neg (by omega),if_pos (by omega)];rfl) | (rw [if_neg (by omega),if_neg (by omega),if_pos (by first | exact .inl ⟨by omega,by assumption⟩ | exact .inr ⟨by omega,by assumption⟩)];rfl) | (rw [if_neg (by omega),if_neg (by omega),if_neg (by rintro (⟨_,h_⟩ | ⟨_,h_⟩)<;>first | omega | simp_all)];rfl)),rfl⟩
  rw [c_10] at hs
  replace c_10:=zAR c_10
  revert a w hs
  refine go 7 [] [2] .n ?_
  refine cl (·.drop (.c (.s .z) (.c .z .n))) ?_
  intro a w hs;exact fin hs rfl rfl ⟨congrArg (Value.int .i64) (by unfold zAK;first | (rw [if_pos (by omega)];rfl) | (rw [if_neg (by omega),if_pos (by omega)];rfl) | (rw [if_neg (by omega),if_neg (by omega),if_pos (by first | exact .inl ⟨by omega,by assumption⟩ | exact .inr ⟨by omega,by assumption⟩)];rfl) | (rw [if_neg (by omega),if_neg (by omega),if_neg (by rintro (⟨_,h_⟩ | ⟨_,h_⟩)<;>first | omega | simp_all)];rfl)),rfl⟩
 rw [c_7] at hs
 replace c_7:=zAR c_7
 revert a w hs
 refine go 10 [0] [39,3,1] (.c .z .n) ⟨rfl,?_⟩
 intro a w hs;refine zY (b:=(r.k:Int)==2) (λc_12=>?_) (λc_12=>?_)
 ·
  rw [c_12] at hs
  replace c_12:=eq_of_beq c_12
  revert a w hs
  refine go 3 [0,1] [42,39] (.c .z (.c .z .n)) ⟨rfl,rfl,by kernel_rfl,?_⟩
  intro a w hs;rw [show zAD _ _=zAm r from zNn r] at hs
  revert a w hs
  refine go 2 [] [27] .n ?_
  refine ifG rfl (λc_13=>?_) (λc_13=>?_)
  ·
   refine go 1 [] [2] .n ?_
   refine cl (·.drop (.c (.s .z) (.c .z .n))) ?_
   intro a w hs;exact fin hs rfl rfl ⟨congrArg (Value.int .i64) (by unfold zAK;first | (rw [if_pos (by omega)];rfl) | (rw [if_neg (by omega),if_pos (by omega)];rfl) | (rw [if_neg (by omega),if_neg (by omega),if_pos (by first | exact .inl ⟨by omega,by assumption⟩ | exact .inr ⟨by omega,by assumption⟩)];rfl) | (rw [if_neg (by omega),if_neg (by omega),if_neg (by rintro (⟨_,h_⟩ | ⟨_,h_⟩)<;>first | omega | simp_all)];rfl)),rfl⟩
  refine go 1 [] [2] .n ?_
  refine cl (·.drop (.c (.s .z) (.c .z .n))) ?_
  intro a w hs;exact fin hs rfl rfl ⟨congrArg (Value.int .i64) (by unfold zAK;first | (rw [if_pos (by omega)];rfl) | (rw [if_neg (by omega),if_pos (by omega)];rfl) | (rw [if_neg (by omega),if_neg (by omega),if_pos (by first | exact .inl ⟨by omega,by assumption⟩ | exact .inr ⟨by omega,by assumption⟩)];rfl) | (rw [if_neg (by omega),if_neg (by omega),if_neg (by rintro (⟨_,h_⟩ | ⟨_,h_⟩)<;>first | omega | simp_all)];rfl)),rfl⟩
 rw [c_12] at hs
 replace c_12:=zAR c_12
 revert a w hs
 refine go 7 [] [2] .n ?_
 refine cl (·.drop (.c (.s .z) (.c .z .n))) ?_
 intro a w hs;exact fin hs rfl rfl ⟨congrArg (Value.int .i64) (by unfold zAK;first | (rw [if_pos (by omega)];rfl) | (rw [if_neg (by omega),if_pos (by omega)];rfl) | (rw [if_neg (by omega),if_neg (by omega),if_pos (by first | exact .inl ⟨by omega,by assumption⟩ | exact .inr ⟨by omega,by assumption⟩)];rfl) | (rw [if_neg (by omega),if_neg (by omega),if_neg (by rintro (⟨_,h_⟩ | ⟨_,h_⟩)<;>first | omega | simp_all)];rfl)),rfl⟩
theorem zIa (g:Nat) (w0:World):Calls Tryz.prog 159 #[pt g 0] w0 (zAf w0 (.agg #[pt g 2,pt g 3,pt g 4,pt g 5,pt g 6,pt g 7])):=by
 refine zG (F0:=[(0,pt g 0)]) func159 rfl rfl rfl (.c .n) (Mem.nil _) ?_
 refine go 1 [] [2,0] .n (λg1=>?_)
 intro a w hs
 refine zR [.p [] [],.p [0] [],.p [1] [],.p [2] [],.p [] [],.p [4] [],.p [5] [],.p [6] [],.p [] [],.p [8] [],.p [9] [],.p [10] [],.p [] [],.p [12] [],.p [13] [],.p [14] [],.p [] [],.p [16] [],.p [17] [],.p [18] [],.p [] [],.p [20] [],.p [21] [],.p [22] [],.p [23,19,15,11,7,3] [],.s [24] [0] [0] []] [] hs (.c .z .n) .n (by kernel_rfl) ⟨rfl,⟨rfl,by kernel_rfl,λ_=>rfl,rfl,rfl,trivial⟩,λ_=>rfl,?_⟩
 refine goE 0 [] [2] .n ?_
 intro a w hs;exact zM6 hs rfl rfl .z (.z (.c (.c (.c (.c (.c (.c .n))))))) isAgg262 sizeOf262 (.c .z .n) ⟨rfl,rfl⟩
theorem zDa (v:Value) (m:Nat) (bs:List zN) (x:Int) (w0:World) (hr:(row v 5 1 m (zC bs)).p w0) (hm:m≤200000) (hx : -9223372036854775808≤x∧x≤9223372036854775807):Calls Tryz.prog 169 #[v,.int .i64 x] w0 (Ret w0 (zO [row v 5 1 m (zC bs)]) λu N=>N=[row u 5 1 (m+(zCf x).length) (zC (bs++zCf x))]):=by
 have hvl:=zDH (zFE x).toNat
 refine zG (F0:=[(0,v),(1,zI x)]) func169 rfl rfl rfl (.c (.c .n)) (zAq hr zPR) ?_
 refine go 3 [] [6,5] .n ?_
 intro a w hs;refine zB (v:=qI (zFE x)) hs (.c rfl .n) call89 (zUA x _ (by omega)) rfl ?_
 intro a w hs;refine zK hs (.c rfl .n) call90 .n (zEl (zFE x) _) rfl ?_;clear hs w a;rintro v1 _ a w rfl hs
 refine zBI (size:=1) (bytes:=1) hs rfl rfl (.s .z) (zP (hs.mem.del .z)) (zAI _) underlying28 (i:=Tryz.t5) rfl rfl rfl rfl rfl (by decide) (by omega) (by simp only [maxLen];omega) rfl ?_;intro v2
 refine goL 1 [] [4] .n ?_
 refine cl (·.drop (.c (.s .z) .n)) ?_
 refine cl (·.rerow .z (m':=m+(zCf x).length) (xs':=zC (bs++zCf x)) (by simp only [zCf,zBe]) (by simp only [zBf,zCf])) ?_
 intro a w hs;exact fin hs rfl rfl rfl
theorem zJA (v:Value) (m:Nat) (bs:List zN) (g:Nat) (r:zW) (w0:World) (hr:(row v 5 1 m (zC bs)).p w0) (hm:m≤100000) (hg:(blk g [zI r.k,zI r.id,zI r.p0,zI r.p1,zI r.p2,zI r.v0,zI r.v1,zI r.v2,.int .u16 (((r.a).toNat:Nat):Int)] 55).p w0) (hw:r.wf):Calls Tryz.prog 130 #[v,pt g 0] w0 (Ret w0 (zO [row v 5 1 m (zC bs)]) λu N=>N=[row u 5 1 (m+(zBK r).length) (zC (bs++zBK r))]):=by
 have hwf:=hw.facts
 have hva:=zEm r.a.toNat
 refine zG (F0:=[(0,v),(1,pt g 0)]) func130 rfl rfl rfl (.c (.c .n)) (zAq hr zPR) ?_
 refine go 2 [] [7,0,1] .n ?_
 intro a w hs;refine zB (v:=.agg #[pt g 2,pt g 3,pt g 4,pt g 5,pt g 6,pt g 7]) hs (.c rfl .n) call159 (zIa g _) rfl ?_
 refine goL 1 [] [9,8,0,1] .n ?_
 intro a w hs;refine zCo 6 ?_
 revert a w hs
 refine go 7 [] [14,12,9,8,1] .n ?_
 intro a w hs;refine zZ hs rfl (hs.mem.keep hg (zDd hr hg (by decide))) (.s (.s .z)) isAgg2 rfl ?_
 intro a w hs;refine zK hs (.c rfl (.c rfl .n)) call169 (.c .z .n) (zDa _ _ bs r.p0 _ (hs.mem.del .z) (by omega) (by omega)) rfl ?_;clear hs w a;rintro v1 _ a w rfl hs
 have hk2:=zAM r.p0
 revert a w hs
 refine goL 3 [] [9,0,8,1] .n ⟨by decide,?_⟩
 intro a w hs;refine zAT ?_
 revert a w hs
 refine go 7 [] [14,12,9,8,1] .n ?_
 intro a w hs;refine zZ hs rfl (hs.mem.keep hg (zDd hr hg (by decide))) (.s (.s (.s .z))) isAgg2 rfl ?_
 intro a w hs;refine zK hs (.c rfl (.c rfl .n)) call169 (.c .z .n) (zDa _ _ (bs++zCf r.p0) r.p1 _ (hs.mem.del .z) (by omega) (by omega)) rfl ?_;clear hs w a;rintro v3 _ a w rfl hs
 have hk4:=zAM r.p1
 revert a w hs
 refine goL 3 [] [9,0,8,1] .n ⟨by decide,?_⟩
 intro a w hs;refine zAT ?_
 revert a w hs
 refine go 7 [] [14,12,9,8,1] .n ?_
 intro a w hs;refine zZ hs rfl (hs.mem.keep hg (zDd hr hg (by decide))) (.s (.s (.s (.s .z)))) isAgg2 rfl ?_
 intro a w hs;refine zK hs (.c rfl (.c rfl .n)) call169 (.c .z .n) (zDa _ _ ((bs++zCf r.p0)++zCf r.p1) r.p2 _ (hs.mem.del .z) (by omega) (by omega)) rfl ?_;clear hs w a;rintro v5 _ a w rfl hs
 have hk6:=zAM r.p2
 revert a w hs
 refine goL 3 [] [9,0,8,1] .n ⟨by decide,?_⟩
 intro a w hs;refine zAT ?_
 revert a w hs
 refine go 7 [] [14,12,9,8,1] .n ?_
 intro a w hs;refine zZ hs rfl (hs.mem.keep hg (zDd hr hg (by decide))) (.s (.s (.s (.s (.s .z))))) isAgg2 rfl ?_
 intro a w hs;refine zK hs (.c rfl (.c rfl .n)) call169 (.c .z .n) (zDa _ _ (((bs++zCf r.p0)++zCf r.p1)++zCf r.p2) r.v0 _ (hs.mem.del .z) (by omega) (by omega)) rfl ?_;clear hs w a;rintro v7 _ a w rfl hs
 have hk8:=zAM r.v0
 revert a w hs
 refine goL 3 [] [9,0,8,1] .n ⟨by decide,?_⟩
 intro a w hs;refine zAT ?_
 revert a w hs
 refine go 7 [] [14,12,9,8,1] .n ?_
 intro a w hs;refine zZ hs rfl (hs.mem.keep hg (zDd hr hg (by decide))) (.s (.s (.s (.s (.s (.s .z)))))) isAgg2 rfl ?_
 intro a w hs;refine zK hs (.c rfl (.c rfl .n)) call169 (.c .z .n) (zDa _ _ ((((bs++zCf r.p0)++zCf r.p1)++zCf r.p2)++zCf r.v0) r.v1 _ (hs.mem.del .z) (by omega) (by omega)) rfl ?_;clear hs w a;rintro v9 _ a w rfl hs
 have hk10:=zAM r.v1
 revert a w hs
 refine goL 3 [] [9,0,8,1] .n ⟨by decide,?_⟩
 intro a w hs;refine zAT ?_
 revert a w hs
 refine go 7 [] [14,12,9,8,1] .n ?_
 intro a w hs;refine zZ hs rfl (hs.mem.keep hg (zDd hr hg (by decide))) (.s (.s (.s (.s (.s (.s (.s .z))))))) isAgg2 rfl ?_
 intro a w hs;refine zK hs (.c rfl (.c rfl .n)) call169 (.c .z .n) (zDa _ _ (((((bs++zCf r.p0)++zCf r.p1)++zCf r.p2)++zCf r.v0)++zCf r.v1) r.v2 _ (hs.mem.del .z) (by omega) (by omega)) rfl ?_;clear hs w a;rintro v11 _ a w rfl hs
 have hk12:=zAM r.v2
 revert a w hs
 refine goL 3 [] [9,0,8,1] .n ⟨by decide,?_⟩
 intro a w hs;refine zAT ?_
 revert a w hs
 refine go 6 [] [21,18] .n ?_
 intro a w hs;refine zZ hs rfl (hs.mem.keep hg (zDd hr hg (by decide))) (.s (.s (.s (.s (.s (.s (.s (.s .z)))))))) isAgg41 rfl ?_
 intro a w hs;refine zG0 (X:=r.a) hs rfl rfl underlying41 underlying167 rfl ?_
 intro a w hs;refine zK hs (.c rfl .n) call90 .n (zEl ((r.a).setWidth 64) _) rfl ?_;clear hs w a;rintro v13 _ a w rfl hs
 replace hs:=hs.rerow .z (m':=(zBt r.a.toNat).length) (xs':=zC (zBt r.a.toNat)) (by rw [zXB];rfl) (by rw [zXB])
 refine zBI (size:=1) (bytes:=1) hs rfl rfl (.s .z) (zP (hs.mem.del .z)) (zAI _) underlying28 (i:=Tryz.t5) rfl rfl rfl rfl rfl (by decide) (by omega) (by simp only [maxLen];omega) rfl ?_;intro v14
 refine goL 1 [] [4] .n ?_
 refine cl (·.drop (.c (.s .z) .n)) ?_
 intro a w hs;replace hs:=hs.rerow .z (m':=m+(zBK r).length) (xs':=zC (bs++zBK r)) (by simp only [List.length_append,zBe,zBK];omega) (by simp only [zBf,List.append_assoc,zBK])
 exact fin hs rfl rfl rfl
theorem zMS (v:Value) (m:Nat) (bs:List zN) (g:Nat) (r:zW) (w0:World) (hr:(row v 5 1 m (zC bs)).p w0) (hm:m≤100000) (hg:(blk g [zI r.k,zI r.id,zI r.p0,zI r.p1,zI r.p2,zI r.v0,zI r.v1,zI r.v2,.int .u16 (((r.a).toNat:Nat):Int)] 55).p w0) (hw:r.wf):Calls Tryz.prog 132 #[v,pt g 0] w0 (Ret w0 (zO [row v 5 1 m (zC bs)]) λu N=>N=[row u 5 1 (m+(zBD r).length) (zC (bs++zBD r))]):=by
 have hwf:=hw.facts
 have hva:=zEm r.a.toNat
 have hml:=hr.1
 rw [show (zC bs).length=bs.length by simp [zC],Nat.mul_one] at hml
 have hlu_:=zBb r 0
 refine zG (F0:=[(0,v),(1,pt g 0)]) func132 rfl rfl rfl (.c (.c .n)) (zAq hr zPR) ?_
 refine go 2 [] [8,0,1] .n ?_
 intro a w hs;refine zAC hs rfl (zP (hs.mem.del .z)).isSl underlying28 rfl ?_
 refine goL 3 [] [11,10,5,1] .n (λg1=>?_)
 intro a w hs;refine zBI (size:=1) (bytes:=1) hs rfl rfl (.s .z) (zAJ (m:=1) (size:=1) (hs.mem.del .z) rfl (by decide)) (by simp [Value.oneCell']) underlying28 (i:=Tryz.t5) rfl rfl rfl rfl rfl (by decide) (by omega) (by simp only [maxLen];omega) rfl ?_;intro v2
 refine cl (·.drop (.c (.s .z) .n)) ?_
 intro a w hs;replace hs:=hs.rerow .z (m':=(m+1+(zAg r 0).length)) (xs':=zC (bs++zA1 r 0::zAg r 0)) (by simp only [zAg,List.length_nil]) (by simp only [zBf,zA1,zAg];rfl)
 revert a w hs
 refine goL 2 [] [13,0,5,1] .n ?_
 intro a w hs;refine zB (v:=.agg #[pt g 2,pt g 3,pt g 4,pt g 5,pt g 6,pt g 7]) hs (.c rfl .n) call159 (zIa g _) rfl ?_
 refine goL 1 [] [15,14,0,5,1] .n ?_
 intro a w hs;refine zCU (λmm_ a w=>∃ i:Nat,∃ q:Value,mm_=6-i∧St 57 [(0,q),(1,pt g 0),(5,zI (m:Int)),(14,.agg #[pt g 2,pt g 3,pt g 4,pt g 5,pt g 6,pt g 7]),(15,nI i)] w0 (zO [row v 5 1 m (zC bs)]) [row q 5 1 (m+1+(zAg r i).length) (zC (bs++zA1 r i::zAg r i))] a w∧i≤6) ⟨0,v2,rfl,hs.sub (.c rfl (.c rfl (.c rfl (.c rfl (.c rfl .n))))),by omega⟩ ?_
 clear hs w a;rintro mm_ a w ⟨i,q,rfl,hs,hI1_0⟩
 have hlui:=zBb r i
 have hluj:=zBb r (i+1)
 revert a w hs
 refine go 1 [] [16,0,1,5,14,15] .n ?_
 refine ifG rfl (λc_3=>?_) (λc_3=>?_)
 ·
  refine go 1 [] [17,0,1,5,14,15] .n ?_
  intro a w hs;refine zcm hs rfl rfl underlying262 (by omega) (by omega) (zXI (by omega)) isAgg261 sizeOf261 rfl ?_
  refine goL 3 [] [19,7,6,0,1,5,14,15] .n ?_
  intro a w hs;refine zVu hs rfl rfl ?_
  intro a w hs;refine zKi (v:=zI (r.num i)) hs rfl (hs.mem.keep hg (zDd hr hg (by decide))) (zTz (by omega)) isAgg2 rfl ?_
  refine goL 1 [] [22,7,6,0,1,5,14,15] .n ?_
  refine ifG rfl (λc_4=>?_) (λc_4=>?_)
  ·
   have hn_:r.num i≠0:=by assumption
   have hnr:=zYC hw (i:=i) (by omega)
   refine go 0 [] [7,6,0,1,5,14,15] .n ?_
   intro a w hs
   refine zAS [.p [] [],.p [] [],.y [1,0] (.pointer (some (adr q m))) [] [] [] λvs5=>[],.y [2] (bI (zA1 r i)) [] [] [] λvs5=>[],.p [] [],.v [4] (bI ((1#8)<<<i)),.v [5,3] (bI ((zA1 r i)|||((1#8)<<<i))),.y [1,0] (.pointer (some (adr q m))) [] [] [] λvs5=>[],.x [7,6] ⟨[row q 5 1 (m+1+(zAg r i).length) (zC (bs++zA1 r i::zAg r i))],[],[],λvs5=>True,λvs5=>[row q 5 1 (m+1+(zAg r i).length) (zC ((bs++zA1 r i::zAg r i).set m ((zA1 r i)|||((1#8)<<<i))))],none⟩] [] hs .n (.c .z .n) .n (by kernel_rfl) ⟨λ_ _ _ _ hm hs K=>zMY (X:=1#8) (m:=i) hs rfl (by decide) rfl rfl rfl (vk K),λ_ _ _ _ hm hs K=>zKU (X:=zA1 r i) (Y:=(1#8)<<<i) hs rfl rfl rfl rfl rfl (vk K),⟨(.c .z .n),by kernel_rfl,λ_=>rfl,rfl,rfl⟩,⟨?_,?_,?_,?_,trivial⟩,?_⟩
   ·
    intro a_ w_ R_ rest_ vs5 hm hs ht hx
    have hs0:=hs.bare
    refine zA4 (j:=m) hs rfl rfl (zP (hm.own (List.mem_append.2 (.inr ((hx 8 (zD 9 _ (by kernel_rfl))).1 _ (List.Mem.head _)))))) rfl (by omega) underlying28 sizeOf5 rfl ?_;clear hs;intro a w hs
    exact wpList_nil ⟨rfl,_,_,hs0,(.c (.c .r)),hs,rfl⟩
   ·
    intro a_ w_ R_ rest_ vs5 hm hs ht hx
    have hs0:=hs.bare
    refine zB4 hs rfl (zP (hm.own (List.mem_append.2 (.inr ((hx 8 (zD 9 _ (by kernel_rfl))).1 _ (List.Mem.head _)))))) (zB1 (bs++zA1 r i::zAg r i) (by first | omega | (simp;omega))) isAgg5 rfl ?_;clear hs;intro a w hs
    rw [zOU hml] at hs
    exact wpList_nil ⟨rfl,_,_,hs0,(.c .r),hs,rfl⟩
   ·
    intro a_ w_ R_ rest_ vs5 hm hs ht hx
    have hs0:=hs.bare
    refine zA4 (j:=m) hs rfl rfl (zP (hm.own (List.mem_append.2 (.inr ((hx 8 (zD 9 _ (by kernel_rfl))).1 _ (List.Mem.head _)))))) rfl (by omega) underlying28 sizeOf5 rfl ?_;clear hs;intro a w hs
    exact wpList_nil ⟨rfl,_,_,hs0,(.c (.c .r)),hs,rfl⟩
   ·
    intro a_ w_ R_ rest_ vs5 hm hs ht hx
    have hs0:=hs.bare
    refine zLs hs rfl rfl .z (by omega) rfl sizeOf5 ?_;clear hs;intro a w hs
    replace hs:=hs.rerow .z (m':=(m+1+(zAg r i).length)) (xs':=zC ((bs++zA1 r i::zAg r i).set m ((zA1 r i)|||((1#8)<<<i)))) (rfl) ((zEM _ _ _).symm)
    exact wpList_nil ⟨rfl,.tuple #[],_,hs0,(.c (.c .r)),hs,trivial⟩
   clear hs w a;intro vs5 a w hs hf
   clear hf
   revert a w hs
   refine goE 1 [] [31,7,1,5,14,15] .n ?_
   refine cl (·.rerow .z (m':=(m+1+(zAg r i).length)) (xs':=zC (bs++(zA1 r i|||(1#8<<<i))::zAg r i)) (rfl) (by rw [zSu hml])) ?_
   refine go 1 [] [32,31,1,5,14,15] .n ?_
   intro a w hs;refine zVu hs rfl rfl ?_
   intro a w hs;refine zKi (v:=zI (r.num i)) hs rfl (hs.mem.keep hg (zDd hr hg (by decide))) (zTz (by omega)) isAgg2 rfl ?_
   intro a w hs;refine zK hs (.c rfl (.c rfl .n)) call169 (.c .z .n) (zDa _ _ (bs++(zA1 r i|||(1#8<<<i))::zAg r i) (r.num i) _ (hs.mem.del .z) (by omega) (by omega)) rfl ?_;clear hs w a;rintro v6 _ a w rfl hs
   have hk7:=zAM (r.num i)
   revert a w hs
   refine goL 3 [] [15,0,1,5,14] .n ⟨(by omega),?_⟩
   intro a w hs;replace hs:=hs.rerow .z (m':=(m+1+(zAg r (i+1)).length)) (xs':=zC (bs++zA1 r (i+1)::zAg r (i+1))) (by first | (rw [zIS hz_]) | (rw [zIB hn_];simp only [List.length_append];omega)) (by first | (rw [zOx hz_,zIS hz_]) | (rw [zPq hn_,zIB hn_];simp [zBf]))
   refine ⟨_,?_,(i+1),v6,rfl,hs.sub (.c rfl (.c rfl (.c rfl (.c rfl (.c rfl .n))))),by omega⟩
   omega
  have hz_:r.num i=0:=by assumption
  refine go 2 [] [15,0,1,5,14] .n ⟨(by omega),?_⟩
  intro a w hs;replace hs:=hs.rerow .z (m':=(m+1+(zAg r (i+1)).length)) (xs':=zC (bs++zA1 r (i+1)::zAg r (i+1))) (by first | (rw [zIS hz_]) | (rw [zIB hn_];simp only [List.length_append];omega)) (by first | (rw [zOx hz_,zIS hz_]) | (rw [zPq hn_,zIB hn_];simp [zBf]))
  refine ⟨_,?_,(i+1),q,rfl,hs.sub (.c rfl (.c rfl (.c rfl (.c rfl (.c rfl .n))))),by omega⟩
  omega
 obtain rfl:i=6:=by omega
 refine go 3 [] [39,0,1,5] .n ?_
 intro a w hs;refine zZ hs rfl (hs.mem.keep hg (zDd hr hg (by decide))) (.s (.s (.s (.s (.s (.s (.s (.s .z)))))))) isAgg41 rfl ?_
 refine goL 1 [] [41,0,1,5] .n ?_
 refine ifG rfl (λc_8=>?_) (λc_8=>?_)
 ·
  refine go 2 [] [43,42,0,1] .n ?_
  intro a w hs;refine zA4 (j:=m) hs rfl rfl (zP (hs.mem.del .z)) rfl (by omega) underlying28 sizeOf5 rfl ?_
  intro a w hs;refine zB4 hs rfl (zP (hs.mem.del .z)) (zB1 (bs++zA1 r 6::zAg r 6) (by first | omega | (simp;omega))) isAgg5 rfl ?_
  intro a w hs;rw [zOU hml] at hs
  refine zKU (X:=zA1 r 6) (Y:=64#8) hs rfl rfl rfl (by decide) rfl ?_
  intro a w hs;refine zA4 (j:=m) hs rfl rfl (zP (hs.mem.del .z)) rfl (by omega) underlying28 sizeOf5 rfl ?_
  intro a w hs;refine zLs hs rfl rfl .z (by omega) rfl sizeOf5 ?_
  refine cl (·.rerow .z (m':=(m+1+(zAg r 6).length)) (xs':=zC ((bs++zA1 r 6::zAg r 6).set m ((zA1 r 6)|||(64#8)))) (rfl) ((zEM _ _ _).symm)) ?_
  refine goL 1 [] [48,1] .n ?_
  refine cl (·.rerow .z (m':=(m+1+(zAg r 6).length)) (xs':=zC (bs++(zA1 r 6|||64#8)::zAg r 6)) (rfl) (by rw [zSu hml])) ?_
  refine go 3 [] [51,48] .n ?_
  intro a w hs;refine zZ hs rfl (hs.mem.keep hg (zDd hr hg (by decide))) (.s (.s (.s (.s (.s (.s (.s (.s .z)))))))) isAgg41 rfl ?_
  intro a w hs;refine zG0 (X:=r.a) hs rfl rfl underlying41 underlying167 rfl ?_
  intro a w hs;refine zK hs (.c rfl .n) call90 .n (zEl ((r.a).setWidth 64) _) rfl ?_;clear hs w a;rintro v9 _ a w rfl hs
  replace hs:=hs.rerow .z (m':=(zBt r.a.toNat).length) (xs':=zC (zBt r.a.toNat)) (by rw [zXB];rfl) (by rw [zXB])
  refine zBI (size:=1) (bytes:=1) hs rfl rfl (.s .z) (zP (hs.mem.del .z)) (zAI _) underlying28 (i:=Tryz.t5) rfl rfl rfl rfl rfl (by decide) (by omega) (by simp only [maxLen];omega) rfl ?_;intro v10
  refine goL 3 [] [4] .n ?_
  refine cl (·.drop (.c (.s .z) .n)) ?_
  intro a w hs;replace hs:=hs.rerow .z (m':=m+(zBD r).length) (xs':=zC (bs++zBD r)) (by first | (rw [zBo (by omega)];simp only [List.length_append,List.length_cons];omega) | (rw [zBk (by omega)];simp only [List.length_append,List.length_cons];omega)) (by first | (rw [zBo (by omega)]) | (rw [zBk (by omega)];simp [zC]))
  exact fin hs rfl rfl rfl
 refine go 2 [] [4] .n ?_
 intro a w hs;replace hs:=hs.rerow .z (m':=m+(zBD r).length) (xs':=zC (bs++zBD r)) (by first | (rw [zBo (by omega)];simp only [List.length_append,List.length_cons];omega) | (rw [zBk (by omega)];simp only [List.length_append,List.length_cons];omega)) (by first | (rw [zBo (by omega)]) | (rw [zBk (by omega)];simp [zC]))
 exact fin hs rfl rfl rfl
theorem zSc (v:Value) (m:Nat) (bs:List zN) (g:Nat) (w0:World) (hr:(row v 5 1 m (zC bs)).p w0):Calls Tryz.prog 128 #[v,pt g 0] w0 (Ret w0 (zO [row v 5 1 m (zC bs)]) λu N=>u=v∧N=[row v 5 1 m (zC bs)]):=by
 refine zG (F0:=[(0,v),(1,pt g 0)]) func128 rfl rfl rfl (.c (.c .n)) (zAq hr zPR) ?_
 refine go 3 [] [4] .n ?_
 intro a w hs;exact fin hs rfl rfl ⟨rfl,rfl⟩
theorem zGV (w0:World):Calls Tryz.prog 92 #[] w0 (zAf w0 (.agg #[.func (.func 130) #[] #[],.func (.func 131) #[] #[],.func (.func 132) #[] #[],.func (.func 133) #[] #[],.func (.func 128) #[] #[],.func (.func 129) #[] #[],.func (.func 130) #[] #[],.func (.func 131) #[] #[]])):=by
 refine zG (F0:=[]) func92 rfl rfl rfl .n (Mem.nil _) ?_
 refine go 10 [0,0,1] [0] .n (λg1=>λg2=>⟨rfl,rfl,rfl,?_⟩)
 intro a w hs;exact zM6 hs rfl rfl (.s .z) (.z (.c (.c (.c (.c (.c (.c (.c (.c .n))))))))) isAgg176 sizeOf176 (.c (.s .z) (.c .z .n)) ⟨rfl,rfl⟩
theorem zWy (r:zW) (last:Int) (w0:World) (hw:r.wf) (hl : -9223372036854775808≤last∧last≤9223372036854775807):Calls Tryz.prog 59 #[.agg #[zI r.k,zI r.id,zI r.p0,zI r.p1,zI r.p2,zI r.v0,zI r.v1,zI r.v2,.int .u16 (((r.a).toNat:Nat):Int)],.int .i64 last] w0 (Ret w0 [] λu N=>∃ v,u = .tuple #[v,nI (zAt r last)]∧N=[row v 5 1 (zCb r last).length (zC (zCb r last))]):=by
 have hwf:=hw.facts
 have hva:=zEm r.a.toNat
 have hal:=zLO r
 have hsl:=zJh r
 have hul:=zBb r 6
 have hul0:=zBb r 0
 have hhl:=zJe r last
 have hvX:=zDH (BitVec.ofInt 64 (r.id-last-1)).toNat
 refine zG (F0:=[(0,.agg #[zI r.k,zI r.id,zI r.p0,zI r.p1,zI r.p2,zI r.v0,zI r.v1,zI r.v2,.int .u16 (((r.a).toNat:Nat):Int)]),(1,zI last)]) func59 rfl rfl rfl (.c (.c .n)) (Mem.nil _) ?_
 refine go 4 [0,0] [8,2,1] .n (λg1=>⟨rfl,?_⟩)
 intro a w hs;refine zB (v:=nI (zAK r)) hs (.c rfl .n) call91 (zXh r _) rfl ?_
 refine goL 3 [] [11,6,2,1] .n ?_
 refine ifG rfl (λc_2=>?_) (λc_2=>?_)
 ·
  refine go 3 [] [5,4] .n ?_
  have hre:zAt r last=zAK r:=by first | exact zCS (by omega) | exact zCP (by omega) (by omega) | exact zCO (by omega) (by omega) (by omega) | exact zCV (by omega) (by omega) (by omega)
  refine cl (·.drop (.c .z .n)) ?_
  refine cl (·.addNil 5 1) ?_
  intro a w hs;replace hs:=hs.rerow .z (m':=(zCb r last).length) (xs':=zC (zCb r last)) (by rw [zDy (by omega)];rfl) (by rw [zDy (by omega)];rfl)
  exact zBR hs rfl rfl rfl ⟨_,congrArg (λz:Nat=>Value.tuple #[.slice none 0 0,zI (z:Int)]) hre.symm,rfl⟩
 have hck:=zPJ (r:=r) (by omega)
 refine go 3 [] [16,2,1] .n ?_
 intro a w hs;refine zY (b:=decide (last<(-1))) (λc_3=>?_) (λc_3=>?_)
 ·
  rw [c_3] at hs
  replace c_3:=of_decide_eq_true c_3
  revert a w hs
  refine go 7 [] [5,4] .n ?_
  have hre:zAt r last=3:=by first | exact zCS (by omega) | exact zCP (by omega) (by omega) | exact zCO (by omega) (by omega) (by omega) | exact zCV (by omega) (by omega) (by omega)
  refine cl (·.drop (.c .z .n)) ?_
  refine cl (·.addNil 5 1) ?_
  intro a w hs;replace hs:=hs.rerow .z (m':=(zCb r last).length) (xs':=zC (zCb r last)) (by rw [zDy (by omega)];rfl) (by rw [zDy (by omega)];rfl)
  exact zBR hs rfl rfl rfl ⟨_,congrArg (λz:Nat=>Value.tuple #[.slice none 0 0,zI (z:Int)]) hre.symm,rfl⟩
 rw [c_3] at hs
 replace c_3:=of_decide_eq_false c_3
 revert a w hs
 refine go 4 [] [13,2,1] .n ?_
 refine ifG rfl (λc_4=>?_) (λc_4=>?_)
 ·
  refine go 2 [] [5,4] .n ?_
  have hre:zAt r last=3:=by first | exact zCS (by omega) | exact zCP (by omega) (by omega) | exact zCO (by omega) (by omega) (by omega) | exact zCV (by omega) (by omega) (by omega)
  refine cl (·.drop (.c .z .n)) ?_
  refine cl (·.addNil 5 1) ?_
  intro a w hs;replace hs:=hs.rerow .z (m':=(zCb r last).length) (xs':=zC (zCb r last)) (by rw [zDy (by omega)];rfl) (by rw [zDy (by omega)];rfl)
  exact zBR hs rfl rfl rfl ⟨_,congrArg (λz:Nat=>Value.tuple #[.slice none 0 0,zI (z:Int)]) hre.symm,rfl⟩
 refine go 5 [0] [20,2,1] (.c .z .n) ⟨rfl,?_⟩
 refine ifG rfl (λc_5=>?_) (λc_5=>?_)
 ·
  refine go 2 [] [5,4] .n ?_
  have hre:zAt r last=10:=by first | exact zCS (by omega) | exact zCP (by omega) (by omega) | exact zCO (by omega) (by omega) (by omega) | exact zCV (by omega) (by omega) (by omega)
  refine cl (·.drop (.c .z .n)) ?_
  refine cl (·.addNil 5 1) ?_
  intro a w hs;replace hs:=hs.rerow .z (m':=(zCb r last).length) (xs':=zC (zCb r last)) (by rw [zDy (by omega)];rfl) (by rw [zDy (by omega)];rfl)
  exact zBR hs rfl rfl rfl ⟨_,congrArg (λz:Nat=>Value.tuple #[.slice none 0 0,zI (z:Int)]) hre.symm,rfl⟩
 refine go 0 [] [2,1] .n ?_
 intro a w hs
 refine zAS [.p [] [],.p [0] [0],.p [] [],.p [2,1] [],.p [3] [],.v [4] (qI (BitVec.ofInt 64 ((r.id-last)-1))),.x [5] ⟨[],[],[],λvs6=>True,λvs6=>[row (vs6 6) 5 1 (zBe (BitVec.ofInt 64 ((r.id-last)-1)).toNat) (zC (zBt (BitVec.ofInt 64 ((r.id-last)-1)).toNat))],none⟩,.p [] [],.p [7] [0],.v [8] (bI (BitVec.ofInt 8 r.k)),.x [9] ⟨[],[],[],λvs6=>vs6 10 = .slice (some ⟨(zDC (vs6 10)),0,none⟩) 1 1,λvs6=>[blk (zDC (vs6 10)) [bI (BitVec.ofInt 8 r.k)] 5],none⟩,.x [] ⟨[],[6],[],λvs6=>True,λvs6=>[row (vs6 11) 5 1 ((zAa r last).length) (zC (zAa r last))],none⟩,.x [] ⟨[],[],[11],λvs6=>vs6 12=(vs6 11),λvs6=>[],none⟩] [] hs .n .n (.c .z .n) (by kernel_rfl) ⟨rfl,(by omega),(by omega),λ_ _ _ _ hm hs K=>zAY hs rfl underlying3 underlying167 rfl (vk K),rfl,λ_ _ _ _ hm hs K=>zWE hs rfl underlying3 underlying5 rfl (vk K),⟨.n,by kernel_rfl,λ_=>rfl,rfl,rfl⟩,⟨?_,?_,?_,?_,trivial⟩,?_⟩
 ·
  intro a_ w_ R_ rest_ vs6 hm hs ht hx
  have hs0:=hs.bare
  refine zK hs (.c rfl .n) call90 .n (zEl (BitVec.ofInt 64 ((r.id-last)-1)) _) rfl ?_;clear hs;rintro v7 _ a w rfl hs
  exact wpList_nil ⟨rfl,_,_,hs0,(.c .r),hs,trivial⟩
 ·
  intro a_ w_ R_ rest_ vs6 hm hs ht hx
  have hs0:=hs.bare
  refine zIt (cs:=[bI (BitVec.ofInt 8 r.k)]) hs (.c .n) (.c rfl .n) underlying28 (ie:=Tryz.t5) rfl rfl rfl rfl (by decide) (by decide) rfl (by decide) rfl rfl rfl ?_;clear hs;intro g8 a w hs
  exact wpList_nil ⟨rfl,_,_,hs0,(.c .r),hs,rfl⟩
 ·
  intro a_ w_ R_ rest_ vs6 hm hs ht hx
  have t6:=ht 6 (zD 13 _ (by kernel_rfl))
  have e6:_=some (vs6 6):=t6.val rfl
  replace hs:=hs.learn e6
  have t10:=ht 10 (zD 13 _ (by kernel_rfl))
  have e10:_=some (vs6 10):=t10.val rfl
  rw [show vs6 10 = .slice (some ⟨(zDC (vs6 10)),0,none⟩) 1 1 from t10.2.1] at e10
  replace hs:=hs.learn e10
  have hs0:=hs.bare
  refine zBI (size:=1) (bytes:=1) hs rfl rfl .z (zAJ (m:=1) (size:=1) (hm.own (List.mem_append.2 (.inr ((ht 10 (zD 13 _ (by kernel_rfl))).2.2 (zJS (n:=13) (by kernel_rfl)) _ (List.Mem.head _))))) rfl (by decide)) (by simp [Value.oneCell']) underlying28 (i:=Tryz.t5) rfl rfl rfl rfl rfl (by decide) (by omega) (by simp only [maxLen];omega) rfl ?_;clear hs;intro v9 a w hs
  replace hs:=hs.rerow .z (m':=(zAa r last).length) (xs':=zC (zAa r last)) (by unfold zAa;simp only [List.length_append,List.length_cons,List.length_nil,zBe]) (by unfold zAa;rw [zBf];rfl)
  exact wpList_nil ⟨rfl,_,_,hs0,(.c (.c .r)),hs,trivial⟩
 ·
  intro a_ w_ R_ rest_ vs6 hm hs ht hx
  have t11:=ht 11 (zD 13 _ (by kernel_rfl))
  have e11:_=some (vs6 11):=t11.val rfl
  replace hs:=hs.learn e11
  have hs0:=hs.bare
  refine zEH hs rfl rfl ?_;clear hs;intro a w hs
  exact wpList_nil ⟨rfl,_,_,hs0,(.c .r),hs,rfl⟩
 clear hs w a;intro vs6 a w hs hf
 obtain ⟨e12,q12⟩:=hf 12 (by decide)
 replace e12:_=some (vs6 12):=e12.val rfl
 rw [show vs6 12=(vs6 11) from q12] at e12
 replace hs:=hs.learn e12;clear e12 q12
 generalize zDC (vs6 10)=g10 at hs
 generalize vs6 11=v11 at hs
 clear hf
 revert a w hs
 refine goE 0 [] [7,2] .n ?_
 rcases (show r.k=0∨r.k=1∨r.k=2∨r.k=3 from by omega) with hk12 | hk12 | hk12 | hk12
 ·
  intro a w hs
  refine zAS [.v [] (.agg #[.func (.func 130) #[] #[],.func (.func 131) #[] #[],.func (.func 132) #[] #[],.func (.func 133) #[] #[],.func (.func 128) #[] #[],.func (.func 129) #[] #[],.func (.func 130) #[] #[],.func (.func 131) #[] #[]]),.p [] [],.v [1] (zI 0),.p [2,0] [],.p [3] [],.p [] [],.x [5,4] ⟨[row v11 5 1 ((zAa r last).length) (zC (zAa r last))],[],[],λvs13=>True,λvs13=>[row (vs13 6) 5 1 (((zAa r last).length)+(zBK r).length) (zC ((zAa r last)++zBK r))],none⟩,.x [] ⟨[],[],[6],λvs13=>vs13 7=(vs13 6),λvs13=>[],none⟩,.p [] []] [8] hs .n (.c (.s (.s .z)) .n) .n (by kernel_rfl) ⟨λ_ _ _ _ hm hs K=>zB (v:=.agg #[.func (.func 130) #[] #[],.func (.func 131) #[] #[],.func (.func 132) #[] #[],.func (.func 133) #[] #[],.func (.func 128) #[] #[],.func (.func 129) #[] #[],.func (.func 130) #[] #[],.func (.func 131) #[] #[]]) hs .n call92 (zGV _) rfl (vk K),?_,⟨(.c .z .n),by kernel_rfl,λ_=>rfl,rfl,rfl⟩,⟨?_,?_,trivial⟩,?_⟩
  ·
   intro a_ w_ R_ Q_ hm hs K_
   have hm0:=hm
   refine zZ hs rfl (hm0.del .z) .z isAgg3 rfl ?_;clear hs;intro a w hs
   replace hs:=hs.recell (v':=zI 0) (Option.some.inj (congrArg (λz=>some (Value.int .i64 z)) hk12))
   exact wpList_nil (K_ _ _ hs)
  ·
   intro a_ w_ R_ rest_ vs13 hm hs ht hx
   have hm0:=hm.mid
   have hs0:=hs.bare
   refine zBE (us:=[]) hs rfl (.c rfl (.c rfl .n)) rfl call130 (.c .z .n) (zJA _ _ (zAa r last) g1 r _ (hs.mem.del .z) (by omega) (hm0.del .z) hw) rfl ?_;clear hs;rintro v14 _ a w rfl hs
   exact wpList_nil ⟨rfl,_,_,hs0,(.c (.c .r)),hs,trivial⟩
  ·
   intro a_ w_ R_ rest_ vs13 hm hs ht hx
   have t6:=ht 6 (zD 9 _ (by kernel_rfl))
   have e6:_=some (vs13 6):=t6.val rfl
   replace hs:=hs.learn e6
   have hs0:=hs.bare
   refine zEH hs rfl rfl ?_;clear hs;intro a w hs
   exact wpList_nil ⟨rfl,_,_,hs0,(.c .r),hs,rfl⟩
  clear hs w a;intro vs13 a w hs hf
  obtain ⟨e7,q7⟩:=hf 7 (by decide)
  replace e7:_=some (vs13 7):=e7.val rfl
  rw [show vs13 7=(vs13 6) from q7] at e7
  replace hs:=hs.learn e7;clear e7 q7
  generalize vs13 6=v15 at hs
  clear hf
  revert a w hs
  refine goE 0 [] [4,5] .n ?_
  have hre:zAt r last=0:=by first | exact zCS (by omega) | exact zCP (by omega) (by omega) | exact zCO (by omega) (by omega) (by omega) | exact zCV (by omega) (by omega) (by omega)
  refine cl (·.drop (.c (.s .z) (.c .z .n))) ?_
  intro a w hs;replace hs:=hs.rerow .z (m':=(zCb r last).length) (xs':=zC (zCb r last)) (by first | ((first | rw [zBS hre (by omega)] | rw [zAW hre (by omega)] | rw [zA3 hre (by omega)])<;>simp only [List.length_append];done) | ((first | rw [zBS hre (by omega)] | rw [zAW hre (by omega),zBo (by omega)] | rw [zAW hre (by omega),zBk (by omega)] | rw [zA3 hre (by omega)])<;>simp only [List.length_append,List.length_cons,List.length_nil,zBK,zHv]<;>omega)) (by first | ((first | rw [zBS hre (by omega)] | rw [zAW hre (by omega)] | rw [zA3 hre (by omega)])<;>rfl) | ((first | rw [zBS hre (by omega)] | rw [zAW hre (by omega),zBo (by omega)] | rw [zAW hre (by omega),zBk (by omega)] | rw [zA3 hre (by omega)])<;>simp only [zBK,zHv,zC,List.map_append,List.map_cons,List.map_nil,List.append_assoc,List.cons_append,List.nil_append]<;>rfl))
  exact zBR hs rfl rfl rfl ⟨_,congrArg (λz:Nat=>Value.tuple #[v15,zI (z:Int)]) hre.symm,rfl⟩
 ·
  intro a w hs
  refine zAS [.v [] (.agg #[.func (.func 130) #[] #[],.func (.func 131) #[] #[],.func (.func 132) #[] #[],.func (.func 133) #[] #[],.func (.func 128) #[] #[],.func (.func 129) #[] #[],.func (.func 130) #[] #[],.func (.func 131) #[] #[]]),.p [] [],.v [1] (zI 1),.p [2,0] [],.p [3] [],.p [] [],.x [5,4] ⟨[row v11 5 1 ((zAa r last).length) (zC (zAa r last))],[],[],λvs16=>True,λvs16=>[row (vs16 6) 5 1 (((zAa r last).length)+(zBD r).length) (zC ((zAa r last)++zBD r))],none⟩,.x [] ⟨[],[],[6],λvs16=>vs16 7=(vs16 6),λvs16=>[],none⟩,.p [] []] [8] hs .n (.c (.s (.s .z)) .n) .n (by kernel_rfl) ⟨λ_ _ _ _ hm hs K=>zB (v:=.agg #[.func (.func 130) #[] #[],.func (.func 131) #[] #[],.func (.func 132) #[] #[],.func (.func 133) #[] #[],.func (.func 128) #[] #[],.func (.func 129) #[] #[],.func (.func 130) #[] #[],.func (.func 131) #[] #[]]) hs .n call92 (zGV _) rfl (vk K),?_,⟨(.c .z .n),by kernel_rfl,λ_=>rfl,rfl,rfl⟩,⟨?_,?_,trivial⟩,?_⟩
  ·
   intro a_ w_ R_ Q_ hm hs K_
   have hm0:=hm
   refine zZ hs rfl (hm0.del .z) .z isAgg3 rfl ?_;clear hs;intro a w hs
   replace hs:=hs.recell (v':=zI 1) (Option.some.inj (congrArg (λz=>some (Value.int .i64 z)) hk12))
   exact wpList_nil (K_ _ _ hs)
  ·
   intro a_ w_ R_ rest_ vs16 hm hs ht hx
   have hm0:=hm.mid
   have hs0:=hs.bare
   refine zBE (us:=[]) hs rfl (.c rfl (.c rfl .n)) rfl call132 (.c .z .n) (zMS _ _ (zAa r last) g1 r _ (hs.mem.del .z) (by omega) (hm0.del .z) hw) rfl ?_;clear hs;rintro v17 _ a w rfl hs
   exact wpList_nil ⟨rfl,_,_,hs0,(.c (.c .r)),hs,trivial⟩
  ·
   intro a_ w_ R_ rest_ vs16 hm hs ht hx
   have t6:=ht 6 (zD 9 _ (by kernel_rfl))
   have e6:_=some (vs16 6):=t6.val rfl
   replace hs:=hs.learn e6
   have hs0:=hs.bare
   refine zEH hs rfl rfl ?_;clear hs;intro a w hs
   exact wpList_nil ⟨rfl,_,_,hs0,(.c .r),hs,rfl⟩
  clear hs w a;intro vs16 a w hs hf
  obtain ⟨e7,q7⟩:=hf 7 (by decide)
  replace e7:_=some (vs16 7):=e7.val rfl
  rw [show vs16 7=(vs16 6) from q7] at e7
  replace hs:=hs.learn e7;clear e7 q7
  generalize vs16 6=v18 at hs
  clear hf
  revert a w hs
  refine goE 0 [] [4,5] .n ?_
  have hre:zAt r last=0:=by first | exact zCS (by omega) | exact zCP (by omega) (by omega) | exact zCO (by omega) (by omega) (by omega) | exact zCV (by omega) (by omega) (by omega)
  refine cl (·.drop (.c (.s .z) (.c .z .n))) ?_
  intro a w hs;replace hs:=hs.rerow .z (m':=(zCb r last).length) (xs':=zC (zCb r last)) (by first | ((first | rw [zBS hre (by omega)] | rw [zAW hre (by omega)] | rw [zA3 hre (by omega)])<;>simp only [List.length_append];done) | ((first | rw [zBS hre (by omega)] | rw [zAW hre (by omega),zBo (by omega)] | rw [zAW hre (by omega),zBk (by omega)] | rw [zA3 hre (by omega)])<;>simp only [List.length_append,List.length_cons,List.length_nil,zBK,zHv]<;>omega)) (by first | ((first | rw [zBS hre (by omega)] | rw [zAW hre (by omega)] | rw [zA3 hre (by omega)])<;>rfl) | ((first | rw [zBS hre (by omega)] | rw [zAW hre (by omega),zBo (by omega)] | rw [zAW hre (by omega),zBk (by omega)] | rw [zA3 hre (by omega)])<;>simp only [zBK,zHv,zC,List.map_append,List.map_cons,List.map_nil,List.append_assoc,List.cons_append,List.nil_append]<;>rfl))
  exact zBR hs rfl rfl rfl ⟨_,congrArg (λz:Nat=>Value.tuple #[v18,zI (z:Int)]) hre.symm,rfl⟩
 ·
  intro a w hs
  refine zAS [.v [] (.agg #[.func (.func 130) #[] #[],.func (.func 131) #[] #[],.func (.func 132) #[] #[],.func (.func 133) #[] #[],.func (.func 128) #[] #[],.func (.func 129) #[] #[],.func (.func 130) #[] #[],.func (.func 131) #[] #[]]),.p [] [],.v [1] (zI 2),.p [2,0] [],.p [3] [],.p [] [],.x [5,4] ⟨[row v11 5 1 ((zAa r last).length) (zC (zAa r last))],[],[],λvs19=>True,λvs19=>[row (vs19 6) 5 1 ((zAa r last).length) (zC (zAa r last))],none⟩,.x [] ⟨[],[],[6],λvs19=>vs19 7=(vs19 6),λvs19=>[],none⟩,.p [] []] [8] hs .n (.c (.s (.s .z)) .n) .n (by kernel_rfl) ⟨λ_ _ _ _ hm hs K=>zB (v:=.agg #[.func (.func 130) #[] #[],.func (.func 131) #[] #[],.func (.func 132) #[] #[],.func (.func 133) #[] #[],.func (.func 128) #[] #[],.func (.func 129) #[] #[],.func (.func 130) #[] #[],.func (.func 131) #[] #[]]) hs .n call92 (zGV _) rfl (vk K),?_,⟨(.c .z .n),by kernel_rfl,λ_=>rfl,rfl,rfl⟩,⟨?_,?_,trivial⟩,?_⟩
  ·
   intro a_ w_ R_ Q_ hm hs K_
   have hm0:=hm
   refine zZ hs rfl (hm0.del .z) .z isAgg3 rfl ?_;clear hs;intro a w hs
   replace hs:=hs.recell (v':=zI 2) (Option.some.inj (congrArg (λz=>some (Value.int .i64 z)) hk12))
   exact wpList_nil (K_ _ _ hs)
  ·
   intro a_ w_ R_ rest_ vs19 hm hs ht hx
   have hs0:=hs.bare
   refine zBE (us:=[]) hs rfl (.c rfl (.c rfl .n)) rfl call128 (.c .z .n) (zSc _ _ (zAa r last) g1 _ (hs.mem.del .z)) rfl ?_;clear hs;rintro _ _ a w ⟨rfl,rfl⟩ hs
   exact wpList_nil ⟨rfl,_,_,hs0,(.c (.c .r)),hs,trivial⟩
  ·
   intro a_ w_ R_ rest_ vs19 hm hs ht hx
   have t6:=ht 6 (zD 9 _ (by kernel_rfl))
   have e6:_=some (vs19 6):=t6.val rfl
   replace hs:=hs.learn e6
   have hs0:=hs.bare
   refine zEH hs rfl rfl ?_;clear hs;intro a w hs
   exact wpList_nil ⟨rfl,_,_,hs0,(.c .r),hs,rfl⟩
  clear hs w a;intro vs19 a w hs hf
  obtain ⟨e7,q7⟩:=hf 7 (by decide)
  replace e7:_=some (vs19 7):=e7.val rfl
  rw [show vs19 7=(vs19 6) from q7] at e7
  replace hs:=hs.learn e7;clear e7 q7
  generalize vs19 6=v20 at hs
  clear hf
  revert a w hs
  refine goE 0 [] [4,5] .n ?_
  have hre:zAt r last=0:=by first | exact zCS (by omega) | exact zCP (by omega) (by omega) | exact zCO (by omega) (by omega) (by omega) | exact zCV (by omega) (by omega) (by omega)
  refine cl (·.drop (.c (.s .z) (.c .z .n))) ?_
  intro a w hs;replace hs:=hs.rerow .z (m':=(zCb r last).length) (xs':=zC (zCb r last)) (by first | ((first | rw [zBS hre (by omega)] | rw [zAW hre (by omega)] | rw [zA3 hre (by omega)])<;>simp only [List.length_append];done) | ((first | rw [zBS hre (by omega)] | rw [zAW hre (by omega),zBo (by omega)] | rw [zAW hre (by omega),zBk (by omega)] | rw [zA3 hre (by omega)])<;>simp only [List.length_append,List.length_cons,List.length_nil,zBK,zHv]<;>omega)) (by first | ((first | rw [zBS hre (by omega)] | rw [zAW hre (by omega)] | rw [zA3 hre (by omega)])<;>rfl) | ((first | rw [zBS hre (by omega)] | rw [zAW hre (by omega),zBo (by omega)] | rw [zAW hre (by omega),zBk (by omega)] | rw [zA3 hre (by omega)])<;>simp only [zBK,zHv,zC,List.map_append,List.map_cons,List.map_nil,List.append_assoc,List.cons_append,List.nil_append]<;>rfl))
  exact zBR hs rfl rfl rfl ⟨_,congrArg (λz:Nat=>Value.tuple #[v20,zI (z:Int)]) hre.symm,rfl⟩
 intro a w hs
 refine zAS [.v [] (.agg #[.func (.func 130) #[] #[],.func (.func 131) #[] #[],.func (.func 132) #[] #[],.func (.func 133) #[] #[],.func (.func 128) #[] #[],.func (.func 129) #[] #[],.func (.func 130) #[] #[],.func (.func 131) #[] #[]]),.p [] [],.v [1] (zI 3),.p [2,0] [],.p [3] [],.p [] [],.x [5,4] ⟨[row v11 5 1 ((zAa r last).length) (zC (zAa r last))],[],[],λvs21=>True,λvs21=>[row (vs21 6) 5 1 (((zAa r last).length)+(zBK r).length) (zC ((zAa r last)++zBK r))],none⟩,.x [] ⟨[],[],[6],λvs21=>vs21 7=(vs21 6),λvs21=>[],none⟩,.p [] []] [8] hs .n (.c (.s (.s .z)) .n) .n (by kernel_rfl) ⟨λ_ _ _ _ hm hs K=>zB (v:=.agg #[.func (.func 130) #[] #[],.func (.func 131) #[] #[],.func (.func 132) #[] #[],.func (.func 133) #[] #[],.func (.func 128) #[] #[],.func (.func 129) #[] #[],.func (.func 130) #[] #[],.func (.func 131) #[] #[]]) hs .n call92 (zGV _) rfl (vk K),?_,⟨(.c .z .n),by kernel_rfl,λ_=>rfl,rfl,rfl⟩,⟨?_,?_,trivial⟩,?_⟩
 ·
  intro a_ w_ R_ Q_ hm hs K_
  have hm0:=hm
  refine zZ hs rfl (hm0.del .z) .z isAgg3 rfl ?_;clear hs;intro a w hs
  replace hs:=hs.recell (v':=zI 3) (Option.some.inj (congrArg (λz=>some (Value.int .i64 z)) hk12))
  exact wpList_nil (K_ _ _ hs)
 ·
  intro a_ w_ R_ rest_ vs21 hm hs ht hx
  have hm0:=hm.mid
  have hs0:=hs.bare
  refine zBE (us:=[]) hs rfl (.c rfl (.c rfl .n)) rfl call130 (.c .z .n) (zJA _ _ (zAa r last) g1 r _ (hs.mem.del .z) (by omega) (hm0.del .z) hw) rfl ?_;clear hs;rintro v22 _ a w rfl hs
  exact wpList_nil ⟨rfl,_,_,hs0,(.c (.c .r)),hs,trivial⟩
 ·
  intro a_ w_ R_ rest_ vs21 hm hs ht hx
  have t6:=ht 6 (zD 9 _ (by kernel_rfl))
  have e6:_=some (vs21 6):=t6.val rfl
  replace hs:=hs.learn e6
  have hs0:=hs.bare
  refine zEH hs rfl rfl ?_;clear hs;intro a w hs
  exact wpList_nil ⟨rfl,_,_,hs0,(.c .r),hs,rfl⟩
 clear hs w a;intro vs21 a w hs hf
 obtain ⟨e7,q7⟩:=hf 7 (by decide)
 replace e7:_=some (vs21 7):=e7.val rfl
 rw [show vs21 7=(vs21 6) from q7] at e7
 replace hs:=hs.learn e7;clear e7 q7
 generalize vs21 6=v23 at hs
 clear hf
 revert a w hs
 refine goE 0 [] [4,5] .n ?_
 have hre:zAt r last=0:=by first | exact zCS (by omega) | exact zCP (by omega) (by omega) | exact zCO (by omega) (by omega) (by omega) | exact zCV (by omega) (by omega) (by omega)
 refine cl (·.drop (.c (.s .z) (.c .z .n))) ?_
 intro a w hs;replace hs:=hs.rerow .z (m':=(zCb r last).length) (xs':=zC (zCb r last)) (by first | ((first | rw [zBS hre (by omega)] | rw [zAW hre (by omega)] | rw [zA3 hre (by omega)])<;>simp only [List.length_append];done) | ((first | rw [zBS hre (by omega)] | rw [zAW hre (by omega),zBo (by omega)] | rw [zAW hre (by omega),zBk (by omega)] | rw [zA3 hre (by omega)])<;>simp only [List.length_append,List.length_cons,List.length_nil,zBK,zHv]<;>omega)) (by first | ((first | rw [zBS hre (by omega)] | rw [zAW hre (by omega)] | rw [zA3 hre (by omega)])<;>rfl) | ((first | rw [zBS hre (by omega)] | rw [zAW hre (by omega),zBo (by omega)] | rw [zAW hre (by omega),zBk (by omega)] | rw [zA3 hre (by omega)])<;>simp only [zBK,zHv,zC,List.map_append,List.map_cons,List.map_nil,List.append_assoc,List.cons_append,List.nil_append]<;>rfl))
 exact zBR hs rfl rfl rfl ⟨_,congrArg (λz:Nat=>Value.tuple #[v23,zI (z:Int)]) hre.symm,rfl⟩
theorem zZd (s:BitVec 32) (c:zN) (w0:World):Calls Tryz.prog 135 #[.int .u32 (s.toNat:Int),.int .u8 (c.toNat:Int)] w0 (zAf w0 (.int .u32 ((zLD s c).toNat:Int))):=by
 refine zG (F0:=[(0,.int .u32 (((s).toNat:Nat):Int)),(1,bI c)]) func135 rfl rfl rfl (.c (.c .n)) (Mem.nil _) ?_
 refine go 3 [] [6,5] .n ?_
 intro a w hs;refine zHp (X:=c) hs rfl rfl underlying5 underlying121 rfl ?_
 intro a w hs;refine zKI (X:=s) (Y:=(c).setWidth 32) hs rfl rfl rfl rfl rfl ?_
 refine goL 2 [] [9,0] .n ?_
 intro a w hs;refine zCU (λmm_ a w=>∃ k:Nat,mm_=8-k∧St 20 [(0,.int .u32 (((zJF k (s^^^c.setWidth 32)).toNat:Nat):Int)),(9,zI (k:Int))] w0 [] [] a w∧k≤8) ⟨0,rfl,hs.sub (.c rfl (.c rfl .n)),by omega⟩ ?_
 clear hs w a;rintro mm_ a w ⟨k,rfl,hs,hI1_0⟩
 revert a w hs
 refine go 1 [] [10,0,9] .n ?_
 refine ifG rfl (λc_1=>?_) (λc_1=>?_)
 ·
  refine go 1 [] [11,0,9] .n ?_
  intro a w hs;refine zFg (X:=zJF k (s^^^c.setWidth 32)) (m:=1) hs rfl rfl rfl (by decide) rfl ?_
  refine goL 1 [] [13,12,9] .n ?_
  intro a w hs;refine zKE (X:=zJF k (s^^^c.setWidth 32)) (Y:=1#32) hs rfl rfl rfl (by decide) rfl ?_
  intro a w hs;refine zQq (X:=(zJF k (s^^^c.setWidth 32))&&&(1#32)) hs rfl rfl rfl ?_
  intro a w hs;refine zKE (X:=3988292384#32) (Y:=-((zJF k (s^^^c.setWidth 32))&&&(1#32))) hs rfl (by decide) rfl rfl rfl ?_
  intro a w hs;refine zKI (X:=(zJF k (s^^^c.setWidth 32))>>>1) (Y:=(3988292384#32)&&&(-((zJF k (s^^^c.setWidth 32))&&&(1#32)))) hs rfl rfl rfl rfl rfl ?_
  refine goL 3 [] [9,0] .n ⟨(by omega),?_⟩
  intro a w hs;refine ⟨_,?_,k+1,rfl,hs.sub (.c rfl (.c rfl .n)),by omega⟩
  omega
 refine go 2 [] [4] .n ?_
 intro a w hs;exact fin hs rfl rfl ⟨by have h:k=8:=(by omega);subst h;rfl,rfl⟩
theorem zUy (s:BitVec 32) (c:zN) (g:Nat) (w0:World) (hb:(blk g [.int .u32 (s.toNat:Int)] 121).p w0):Calls Tryz.prog 134 #[.int .u8 (c.toNat:Int),pt g 0] w0 (Ret w0 (zO [blk g [.int .u32 (s.toNat:Int)] 121]) λv N=>v = .tuple #[]∧N=[blk g [.int .u32 ((zLD s c).toNat:Int)] 121]):=by
 refine zG (F0:=[(0,bI c),(1,pt g 0)]) func134 rfl rfl rfl (.c (.c .n)) (zAq hb) ?_
 refine go 2 [0] [4,3,1] (.c .z .n) ⟨rfl,?_⟩
 intro a w hs;refine zB (v:=.int .u32 (((zLD s c).toNat:Nat):Int)) hs (.c rfl (.c rfl .n)) call135 (zZd s c _) rfl ?_
 refine goL 1 [0] [] (.c .z .n) ⟨rfl,?_⟩
 intro a w hs;exact zJW hs rfl ⟨rfl,rfl⟩
theorem zaW (s:BitVec 32) (v:Value) (m:Nat) (bs:List zN) (w0:World) (hb:Rd w0 [] v 1 m (zC bs)):Calls Tryz.prog 93 #[.int .u32 (s.toNat:Int),v] w0 (zAf w0 (.int .u32 ((zOB s bs).toNat:Int))):=by
 have hbl:bs.length=m:=by have:=hb.len;simpa [zC] using this
 have hle:m≤maxLen:=hb.le
 simp only [maxLen] at hle
 refine zG (F0:=[(0,.int .u32 (((s).toNat:Nat):Int)),(1,v)]) func93 rfl rfl rfl (.c (.c .n)) (Mem.nil _) ?_
 refine go 2 [] [9,1] .n ?_
 intro a w hs;refine zJp (X:=s) hs rfl rfl rfl ?_
 refine goL 5 [0] [12,6,5] .n (λg1=>⟨rfl,?_⟩)
 intro a w hs;refine zAC hs rfl (hs.rd0 hb).isSl underlying28 rfl ?_
 refine goL 1 [] [14,13,12,6,5] .n ?_
 intro a w hs;refine zCU (λmm_ a w=>∃ k:Nat,mm_=m-k∧St 24 [(5,pt g1 0),(6,.func (.func 134) #[] #[pt g1 0]),(12,v),(13,zI (m:Int)),(14,zI (k:Int))] w0 [] [blk g1 [.int .u32 (((zEi (~~~s) (bs.take k)).toNat:Nat):Int)] 121] a w∧k≤m) ⟨0,rfl,hs.sub (.c rfl (.c rfl (.c rfl (.c rfl (.c rfl .n))))),by omega⟩ ?_
 clear hs w a;rintro mm_ a w ⟨k,rfl,hs,hI1_0⟩
 revert a w hs
 refine go 1 [] [15,5,6,12,13,14] .n ?_
 refine ifG rfl (λc_2=>?_) (λc_2=>?_)
 ·
  refine go 0 [] [5,6,12,13,14] .n ?_
  intro a w hs;refine zA4 (j:=k) hs rfl rfl (hs.rd0 hb) rfl (by omega) underlying28 sizeOf5 rfl ?_
  intro a w hs;refine zB4 hs rfl (hs.rd0 hb) (zB1 bs (by first | omega | (simp;omega))) isAgg5 rfl ?_
  refine goL 3 [] [19,18,5,6,12,13,14] .n ?_
  intro a w hs;refine zTJ hs rfl (.c rfl .n) rfl call134 (.c .z .n) (zUy (zEi (~~~s) (bs.take k)) (bs.getD k 0) g1 _ (hs.mem.del .z)) rfl ?_
  refine goL 2 [] [14,5,6,12,13] .n ⟨(by omega),?_⟩
  intro a w hs;rw [← zQi _ _ _ (by omega)] at hs
  refine ⟨_,?_,k+1,rfl,hs.sub (.c rfl (.c rfl (.c rfl (.c rfl (.c rfl .n))))),by omega⟩
  omega
 refine go 1 [0] [22] (.c .z .n) ⟨rfl,?_⟩
 intro a w hs;refine zJp (X:=zEi (~~~s) (bs.take k)) hs rfl rfl rfl ?_
 refine goL 1 [] [4] .n ?_
 refine cl (·.drop (.c .z .n)) ?_
 intro a w hs;exact fin hs rfl rfl ⟨by have h:k=m:=(by omega);subst h;rw [← hbl,List.take_length];rfl,rfl⟩
theorem zXW (v:Value) (m:Nat) (bs:List zN) (w0:World) (hb:Rd w0 [] v 1 m (zC bs)):Calls Tryz.prog 60 #[v] w0 (zAf w0 (.int .u32 ((zBn bs).toNat:Int))):=by
 refine zG (F0:=[(0,v)]) func60 rfl rfl rfl (.c .n) (Mem.nil _) ?_
 refine go 2 [] [3] .n ?_
 intro a w hs;refine zB (v:=.int .u32 (((zOB (0#32) bs).toNat:Nat):Int)) hs (.c rfl (.c rfl .n)) call93 (zaW (0#32) _ _ bs _ (hs.rd0 hb)) rfl ?_
 refine goL 1 [] [2] .n ?_
 intro a w hs;exact fin hs rfl rfl ⟨rfl,rfl⟩
theorem zZz (v:Value) (m:Nat) (bs:List zN) (w0:World) (hb:Rd w0 [] v 1 m (zC bs)) (hm:m≤140737488351232):Calls Tryz.prog 35 #[v] w0 (Ret w0 [] λr N=>N=[row r 5 1 (m+4) (zC (zCp bs))]):=by
 have hbl:bs.length=m:=by have:=hb.len;simpa [zC] using this
 have hle:m≤maxLen:=hb.le
 simp only [maxLen] at hle
 refine zG (F0:=[(0,v)]) func35 rfl rfl rfl (.c .n) (Mem.nil _) ?_
 refine go 2 [] [4,0] .n ?_
 intro a w hs;refine zB (v:=.int .u32 (((zBn bs).toNat:Nat):Int)) hs (.c rfl .n) call60 (zXW _ _ bs _ (hs.rd0 hb)) rfl ?_
 refine goL 1 [] [3,0] .n ?_
 intro a w hs;refine zPP hs underlying28 rfl ?_ ⟨_,sizeOf5⟩;intro g1
 refine goL 1 [] [7,6,3] .n ?_
 refine cl (·.toRow (size:=1) (m:=0) .z rfl (by decide)) ?_
 intro a w hs;refine zBI (size:=1) (bytes:=1) hs rfl rfl .z (hs.rd0 hb) (zAI _) underlying28 (i:=Tryz.t5) rfl rfl rfl rfl rfl (by decide) (by omega) (by simp only [maxLen];omega) rfl ?_;intro v2
 refine goL 1 [] [9,8,3] .n ?_
 intro a w hs;refine zFg (X:=zBn bs) (m:=24) hs rfl rfl rfl (by decide) rfl ?_
 intro a w hs;refine zD0 (X:=(zBn bs)>>>24) hs rfl rfl underlying121 underlying5 rfl ?_
 refine goL 1 [] [12,11,8,3] .n ?_
 intro a w hs;refine zFg (X:=zBn bs) (m:=16) hs rfl rfl rfl (by decide) rfl ?_
 intro a w hs;refine zD0 (X:=(zBn bs)>>>16) hs rfl rfl underlying121 underlying5 rfl ?_
 refine goL 1 [] [15,14,11,8,3] .n ?_
 intro a w hs;refine zFg (X:=zBn bs) (m:=8) hs rfl rfl rfl (by decide) rfl ?_
 intro a w hs;refine zD0 (X:=(zBn bs)>>>8) hs rfl rfl underlying121 underlying5 rfl ?_
 refine goL 1 [] [18,17,14,11,8] .n ?_
 intro a w hs;refine zD0 (X:=zBn bs) hs rfl rfl underlying121 underlying5 rfl ?_
 refine goL 1 [] [20,8] .n (λg3=>?_)
 intro a w hs;refine zBI (size:=1) (bytes:=1) hs rfl rfl (.s .z) (zAJ (m:=4) (size:=1) (hs.mem.del .z) rfl (by decide)) (by simp [Value.oneCell']) underlying28 (i:=Tryz.t5) rfl rfl rfl rfl rfl (by decide) (by omega) (by simp only [maxLen];omega) rfl ?_;intro v4
 refine cl (·.drop (.c (.s .z) .n)) ?_
 refine goL 1 [] [2] .n ?_
 intro a w hs;replace hs:=hs.rerow .z (m':=m+4) (xs':=zC (zCp bs)) (by omega) (by rw [List.nil_append];exact (zBf bs (be4 (zBn bs))).symm)
 exact fin hs rfl rfl rfl
def zET (bs:List zN) (v:Value) (N:List HA):Prop:=match zCX bs with
 | none=>v = .tuple #[.slice none 0 0,.bool false]∧N=[]
 | some x=>∃ r,v = .tuple #[r,.bool true]∧N=[row r 5 1 x.length (zC x)]
theorem zDN {bs:List zN} (h:zCX bs=none):zET bs (.tuple #[.slice none 0 0,.bool false]) []:=by unfold zET;rw [h];exact ⟨rfl,rfl⟩
theorem zLP {bs x:List zN} (h:zCX bs=some x) (r:Value):zET bs (.tuple #[r,.bool true]) [row r 5 1 x.length (zC x)]:=by unfold zET;rw [h];exact ⟨r,rfl,rfl⟩
theorem zJ7 {bs:List zN} (h:bs.length<4):zCX bs=none:=by unfold zCX;rw [if_pos h]
theorem zZU {bs:List zN} (h:¬ bs.length<4) (h2:beN (bs.drop (bs.length-4))≠zBn (bs.take (bs.length-4))):zCX bs=none:=by unfold zCX;rw [if_neg h,if_neg h2]
theorem zWk {bs:List zN} (h:¬ bs.length<4) (h2:beN (bs.drop (bs.length-4))=zBn (bs.take (bs.length-4))):zCX bs=some (bs.take (bs.length-4)):=by unfold zCX;rw [if_neg h,if_pos h2]
theorem zOd {bs:List zN} {m k:Nat} (hl:bs.length=m) (h4:4≤m) (h:(((beN ((bs.drop (m-4)).take k)).toNat:Nat):Int)≠(((zBn (bs.take (m-4))).toNat:Nat):Int)) (hk:k=m-(m-4)):zCX bs=none:=by
 subst hl
 rw [List.take_of_length_le (by simp;omega)] at h
 exact zZU (by omega) (λe=>h (by rw [e]))
theorem zRN {bs:List zN} {m k:Nat} (hl:bs.length=m) (h4:4≤m) (h:(((beN ((bs.drop (m-4)).take k)).toNat:Nat):Int)=(((zBn (bs.take (m-4))).toNat:Nat):Int)) (hk:k=m-(m-4)):zCX bs=some (bs.take (m-4)):=by
 subst hl
 rw [List.take_of_length_le (by simp;omega)] at h
 exact zWk (by omega) (BitVec.eq_of_toNat_eq (by omega))
theorem zRo (v:Value) (m:Nat) (bs:List zN) (w0:World) (hb:Rd w0 [] v 1 m (zC bs)) (hm:m≤140737488351232):Calls Tryz.prog 136 #[v] w0 (Ret w0 [] (zET bs)):=by
 have hbl:bs.length=m:=by have:=hb.len;simpa [zC] using this
 have hle:m≤maxLen:=hb.le
 simp only [maxLen] at hle
 refine zG (F0:=[(0,v)]) func136 rfl rfl rfl (.c .n) (Mem.nil _) ?_
 refine go 3 [] [8,0] .n ?_
 intro a w hs;refine zAC hs rfl (hs.rd0 hb).isSl underlying28 rfl ?_
 refine goL 4 [] [12,4,0] .n ⟨(by omega),?_⟩
 refine ifG rfl (λc_1=>?_) (λc_1=>?_)
 ·
  refine go 2 [] [3,2] .n ?_
  intro a w hs;first | exact zBR hs rfl rfl rfl (zDN (zJ7 (by omega))) | exact zBR hs rfl rfl rfl (zDN (zOd hbl (by omega) (by assumption) (by omega)))
 have hv_:((m:Int)-4:Int)=(((m-4:Nat):Int):Int):=by omega
 intro a w hs;rw [hv_] at hs;clear hv_
 revert a w hs
 refine go 3 [] [14,13,5,4,0] .n ?_
 intro a w hs;refine zJH (j:=(m-4)) hs rfl rfl rfl (hs.rd0 hb).isSl (by omega) underlying28 sizeOf5 rfl ?_
 intro a w hs;refine zAC hs rfl ((hs.rd0 hb).slcL (l:=(m-4)) (by omega)).isSl underlying28 rfl ?_
 refine goL 1 [] [17,16,15,5,4,0] .n ?_
 intro a w hs;refine zCU (λmm_ a w=>∃ k:Nat,mm_=m-k∧St 38 [(0,v),(4,nI (m-4)),(5,.int .u32 (((beN ((bs.drop (m-4)).take k)).toNat:Nat):Int)),(15,zF2 v 1 (m-4) m),(16,nI (m-(m-4))),(17,zI (k:Int))] w0 [] [] a w∧k≤m-(m-4)) ⟨0,rfl,hs.sub (.c rfl (.c rfl (.c rfl (.c rfl (.c rfl (.c rfl .n)))))),by omega⟩ ?_
 clear hs w a;rintro mm_ a w ⟨k,rfl,hs,hI1_0⟩
 revert a w hs
 refine go 1 [] [18,0,4,5,15,16,17] .n ?_
 refine ifG rfl (λc_2=>?_) (λc_2=>?_)
 ·
  refine go 0 [] [0,4,5,15,16,17] .n ?_
  intro a w hs;refine zA4 (j:=k) hs rfl rfl ((hs.rd0 hb).slcL (l:=(m-4)) (by omega)) rfl (by omega) underlying28 sizeOf5 rfl ?_
  intro a w hs;refine zB4 hs rfl ((hs.rd0 hb).slcL (l:=(m-4)) (by omega)) (zB1 (bs.drop (m-4)) (by first | omega | (simp;omega))) isAgg5 rfl ?_
  refine goL 2 [] [21,7,0,4,15,16,17] .n ?_
  intro a w hs;refine zPv (X:=beN ((bs.drop (m-4)).take k)) (m:=8) hs rfl rfl rfl (by decide) rfl ?_
  refine goL 1 [] [23,22,0,4,15,16,17] .n ?_
  intro a w hs;refine zHp (X:=(bs.drop (m-4)).getD k 0) hs rfl rfl underlying5 underlying121 rfl ?_
  intro a w hs;refine zTX (X:=(beN ((bs.drop (m-4)).take k))<<<8) (Y:=((bs.drop (m-4)).getD k 0).setWidth 32) hs rfl rfl rfl rfl rfl ?_
  refine goL 3 [] [17,5,0,4,15,16] .n ⟨(by omega),?_⟩
  intro a w hs;rw [← zWh _ _ (by simp;omega)] at hs
  refine ⟨_,?_,k+1,rfl,hs.sub (.c rfl (.c rfl (.c rfl (.c rfl (.c rfl (.c rfl .n)))))),by omega⟩
  omega
 refine go 3 [] [29,28,27,0,4] .n ?_
 intro a w hs;refine zKq (j:=(m-4)) hs rfl rfl rfl (hs.rd0 hb) (by omega) underlying28 sizeOf5 rfl ?_
 intro a w hs;refine zB (v:=.int .u32 (((zBn (bs.take (m-4))).toNat:Nat):Int)) hs (.c rfl .n) call60 (zXW _ _ (bs.take (m-4)) _ ((hs.rd0 hb).slcT (h:=(m-4)) (by omega))) rfl ?_
 refine goL 1 [] [32,0,4] .n ?_
 refine ifG rfl (λc_3=>?_) (λc_3=>?_)
 ·
  refine go 2 [] [3,2] .n ?_
  intro a w hs;first | exact zBR hs rfl rfl rfl (zDN (zJ7 (by omega))) | exact zBR hs rfl rfl rfl (zDN (zOd hbl (by omega) (by assumption) (by omega)))
 refine go 0 [] [0,4] .n ?_
 intro a w hs;refine zPP hs underlying28 rfl ?_ ⟨_,sizeOf5⟩;intro g4
 refine goL 2 [] [35,34,33] .n ?_
 intro a w hs;refine zKq (j:=(m-4)) hs rfl rfl rfl (hs.rd0 hb) (by omega) underlying28 sizeOf5 rfl ?_
 refine cl (·.toRow (size:=1) (m:=0) .z rfl (by decide)) ?_
 intro a w hs;refine zBI (size:=1) (bytes:=1) hs rfl rfl .z ((hs.rd0 hb).slcT (h:=(m-4)) (by omega)) (zAI _) underlying28 (i:=Tryz.t5) rfl rfl rfl rfl rfl (by decide) (by omega) (by simp only [maxLen];omega) rfl ?_;intro v5
 refine goL 2 [] [3,2] .n ?_
 intro a w hs;replace hs:=hs.rerow .z (m':=(bs.take (m-4)).length) (xs':=zC (bs.take (m-4))) (by simp;omega) (by rw [List.nil_append])
 exact zBR hs rfl rfl rfl (zLP (zRN hbl (by omega) (by assumption) (by omega)) _)
theorem zS5 (v:Value) (m:Nat) (bs:List zN) (w0:World) (hb:Rd w0 [] v 1 m (zC bs)) (hm:m≤140737488351232) (h:zCX bs=none):Calls Tryz.prog 136 #[v] w0 (zAf w0 (.tuple #[.slice none 0 0,.bool false])) :=
 (zRo v m bs w0 hb hm).mono λe w' ⟨u,N,he,hp,hM⟩=>⟨u,N,he,by unfold zET at hp;rw [h] at hp;exact hp,hM⟩
theorem zRS (v:Value) (m:Nat) (bs:List zN) (w0:World) (hb:Rd w0 [] v 1 m (zC bs)) (x:List zN) (hm:m≤140737488351232) (h:zCX bs=some x):Calls Tryz.prog 136 #[v] w0 (Ret w0 [] λu N=>∃ r,u = .tuple #[r,.bool true]∧N=[row r 5 1 x.length (zC x)]) :=
 (zRo v m bs w0 hb hm).mono λe w' ⟨u,N,he,hp,hM⟩=>⟨u,N,he,by unfold zET at hp;rw [h] at hp;exact hp,hM⟩
end Go.Proofs.YtajjkegcfmhghaaGreat
