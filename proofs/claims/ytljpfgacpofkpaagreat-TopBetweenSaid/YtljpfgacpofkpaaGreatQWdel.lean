import Derived.Test.YtljpfgacpofkpaaGreatQG13
import Derived.Test.YtljpfgacpofkpaaGreatQG15
import Derived.Test.YtljpfgacpofkpaaGreatQSxDel
import Derived.Test.YtljpfgacpofkpaaGreatQSxBasB
set_option linter.unusedVariables false
set_option linter.unusedSimpArgs false
namespace Go.Proofs.YtljpfgacpofkpaaGreat
open Tryz
open Go Go.Sx Go.RowKit
set_option maxRecDepth 4000
set_option maxHeartbeats 1000000
theorem zPi (g bx:Nat) (l:List zS) (w0:World) (hg:(mpr g (ekv l)).p w0) (hb:(blk bx [.map (some g)] 180).p w0) (hnd:(zN [mpr g (ekv l),blk bx [.map (some g)] 180]).Nodup) (hl:l.length≤100000):Calls Tryz.prog 235 #[.func (.func 237) #[] #[pt bx 0]] w0 (Ret w0 (zN [mpr g (ekv l),blk bx [.map (some g)] 180]) λu N=>∃ l':List zS,l'.Perm l∧N=[row u 48 9 l'.length (l'.flatMap zBI),mpr g (ekv l),blk bx [.map (some g)] 180]):=by
 refine zG (F0:=[(0,.func (.func 237) #[] #[pt bx 0])]) func235 rfl rfl rfl (.c .n) (zEM hg hb hnd) ?_
 refine go 2 [] [3] .n ?_
 intro a w hs;refine zL hs (.c rfl (.c rfl .n)) call278 (.c .z (.c .z .n)) (zSa g bx l _ (hs.mem.del .z) (hs.mem.del (.s .z)) (hs.mem.ndX (.c .z (.c .z .n))) (by omega)) rfl ?_;clear hs w a;rintro v1 _ a w ⟨l2,hp3,rfl⟩ hs
 have hk4:=hp3.length_eq
 revert a w hs
 refine goL 1 [] [2] .n ?_
 intro a w hs;exact fin hs rfl rfl ⟨_,hp3,rfl⟩
theorem zPW (g bx:Nat) (l:List zS) (w0:World) (hg:(mpr g (ekv l)).p w0) (hb:(blk bx [.map (some g)] 180).p w0) (hnd:(zN [mpr g (ekv l),blk bx [.map (some g)] 180]).Nodup) (hl:l.length≤100000):Calls Tryz.prog 190 #[.func (.func 237) #[] #[pt bx 0],.func (.func 192) #[] #[]] w0 (Ret w0 (zN [mpr g (ekv l),blk bx [.map (some g)] 180]) λu N=>∃ l':List zS,(l'.Perm l∧l'.Pairwise (λx y=>x.id≤y.id))∧N=[row u 48 9 l'.length (l'.flatMap zBI),mpr g (ekv l),blk bx [.map (some g)] 180]):=by
 refine zG (F0:=[(0,.func (.func 237) #[] #[pt bx 0]),(1,.func (.func 192) #[] #[])]) func190 rfl rfl rfl (.c (.c .n)) (zEM hg hb hnd) ?_
 refine go 2 [] [6,1] .n ?_
 intro a w hs;refine zL hs (.c rfl .n) call235 (.c .z (.c .z .n)) (zPi g bx l _ (hs.mem.del .z) (hs.mem.del (.s .z)) (hs.mem.ndX (.c .z (.c .z .n))) (by omega)) rfl ?_;clear hs w a;rintro v1 _ a w ⟨l2,hp3,rfl⟩ hs
 have hk4:=hp3.length_eq
 revert a w hs
 refine goL 3 [] [9,8,5] .n ?_
 intro a w hs;refine zL hs (.c rfl (.c rfl .n)) call236 (.c .z .n) (zVx (hs.mem.del .z) (by first | omega | (simp;done) | (simp;omega)) (by first | omega | (simp;omega))) rfl ?_;clear hs w a;rintro _ _ a w ⟨rfl,l5,⟨hp6,hs7⟩,rfl⟩ hs
 revert a w hs
 refine goL 2 [] [4] .n ?_
 refine cl (·.rerow .z (m':=l5.length) (xs':=(l5.flatMap zBI)) (hp6.length_eq.symm) (rfl)) ?_
 intro a w hs;exact fin hs rfl rfl ⟨_,⟨hp6.trans hp3,hs7⟩,rfl⟩
theorem zQt (g:Nat) (w0:World):Calls Tryz.prog 191 #[.map (some g)] w0 (Ret w0 [] λu N=>∃ bx,u = .func (.func 237) #[] #[pt bx 0]∧N=[blk bx [.map (some g)] 180]):=by
 refine zG (F0:=[(0,.map (some g))]) func191 rfl rfl rfl (.c .n) (Mem.nil _) ?_
 refine go 4 [0] [2] .n (λg1=>?_)
 intro a w hs;exact fin hs rfl rfl ⟨_,rfl,rfl⟩
theorem zIT (t tm:Int) (u:Value) (l:List zS) (w0:World) (ht_ : -9223372036854775808≤t∧t≤9223372036854775807) (htm_ : -9223372036854775808≤tm∧tm≤9223372036854775807) (hc:Rd w0 [] u 9 l.length (l.flatMap zBI)):Calls Tryz.prog 95 #[.agg #[zI t,zI tm,u]] w0 (zAh w0 (nI (zAB t tm l))):=by
 have hce:=hc.le
 simp only [maxLen] at hce
 refine zG (F0:=[(0,.agg #[zI t,zI tm,u])]) func95 rfl rfl rfl (.c .n) (Mem.nil _) ?_
 refine go 6 [0,0] [10,1] .n (λg1=>⟨rfl,?_⟩)
 intro a w hs;refine zX (b:=decide (t<0)) (λc_2=>?_) (λc_2=>?_)
 ·
  rw [c_2] at hs
  replace c_2:=of_decide_eq_true c_2
  revert a w hs
  refine go 17 [] [2] .n ?_
  refine cl (·.drop (.c .z .n)) ?_
  intro a w hs;exact fin hs rfl rfl ⟨congrArg (λz:Nat=>Value.int .i64 (z:Int)) (show 3=zAB t tm l from by first | exact (zCU (by omega)).symm | exact (zCT (by omega) (by omega)).symm | (rw [zCQ (by omega) (by omega)];first | exact ((zAk (j:=j) (by omega) hI1_1 (by rw [zBl (by omega)];decide)).trans (zBl (by omega))).symm | exact ((zAk (j:=j) (by omega) hI1_1 (by rw [zBE (by omega) (by omega)];decide)).trans (zBE (by omega) (by omega))).symm | (unfold zB3;rw [← show j=l.length by omega];exact hI1_1.symm))),rfl⟩
 rw [c_2] at hs
 replace c_2:=of_decide_eq_false c_2
 revert a w hs
 refine go 5 [0] [15,1] (.c .z .n) ⟨rfl,?_⟩
 intro a w hs;refine zX (b:=decide (4294967295<t)) (λc_3=>?_) (λc_3=>?_)
 ·
  rw [c_3] at hs
  replace c_3:=of_decide_eq_true c_3
  revert a w hs
  refine go 12 [] [2] .n ?_
  refine cl (·.drop (.c .z .n)) ?_
  intro a w hs;exact fin hs rfl rfl ⟨congrArg (λz:Nat=>Value.int .i64 (z:Int)) (show 3=zAB t tm l from by first | exact (zCU (by omega)).symm | exact (zCT (by omega) (by omega)).symm | (rw [zCQ (by omega) (by omega)];first | exact ((zAk (j:=j) (by omega) hI1_1 (by rw [zBl (by omega)];decide)).trans (zBl (by omega))).symm | exact ((zAk (j:=j) (by omega) hI1_1 (by rw [zBE (by omega) (by omega)];decide)).trans (zBE (by omega) (by omega))).symm | (unfold zB3;rw [← show j=l.length by omega];exact hI1_1.symm))),rfl⟩
 rw [c_3] at hs
 replace c_3:=of_decide_eq_false c_3
 revert a w hs
 refine go 5 [0] [20,1] (.c .z .n) ⟨rfl,?_⟩
 intro a w hs;refine zX (b:=decide (tm<(-2305843009213693952))) (λc_4=>?_) (λc_4=>?_)
 ·
  rw [c_4] at hs
  replace c_4:=of_decide_eq_true c_4
  revert a w hs
  refine go 7 [] [2] .n ?_
  refine cl (·.drop (.c .z .n)) ?_
  intro a w hs;exact fin hs rfl rfl ⟨congrArg (λz:Nat=>Value.int .i64 (z:Int)) (show 3=zAB t tm l from by first | exact (zCU (by omega)).symm | exact (zCT (by omega) (by omega)).symm | (rw [zCQ (by omega) (by omega)];first | exact ((zAk (j:=j) (by omega) hI1_1 (by rw [zBl (by omega)];decide)).trans (zBl (by omega))).symm | exact ((zAk (j:=j) (by omega) hI1_1 (by rw [zBE (by omega) (by omega)];decide)).trans (zBE (by omega) (by omega))).symm | (unfold zB3;rw [← show j=l.length by omega];exact hI1_1.symm))),rfl⟩
 rw [c_4] at hs
 replace c_4:=of_decide_eq_false c_4
 revert a w hs
 refine go 5 [0] [6,1] (.c .z .n) ⟨rfl,?_⟩
 refine ifG rfl (λc_5=>?_) (λc_5=>?_)
 ·
  refine go 1 [] [2] .n ?_
  refine cl (·.drop (.c .z .n)) ?_
  intro a w hs;exact fin hs rfl rfl ⟨congrArg (λz:Nat=>Value.int .i64 (z:Int)) (show 3=zAB t tm l from by first | exact (zCU (by omega)).symm | exact (zCT (by omega) (by omega)).symm | (rw [zCQ (by omega) (by omega)];first | exact ((zAk (j:=j) (by omega) hI1_1 (by rw [zBl (by omega)];decide)).trans (zBl (by omega))).symm | exact ((zAk (j:=j) (by omega) hI1_1 (by rw [zBE (by omega) (by omega)];decide)).trans (zBE (by omega) (by omega))).symm | (unfold zB3;rw [← show j=l.length by omega];exact hI1_1.symm))),rfl⟩
 refine go 2 [0] [27,1] (.c .z .n) ⟨rfl,?_⟩
 intro a w hs;refine zAG hs rfl (hs.rd0 hc).isSl underlying44 rfl ?_
 refine goL 2 [] [25,1] .n ?_
 refine ifG rfl (λc_6=>?_) (λc_6=>?_)
 ·
  refine go 1 [] [2] .n ?_
  refine cl (·.drop (.c .z .n)) ?_
  intro a w hs;exact fin hs rfl rfl ⟨congrArg (λz:Nat=>Value.int .i64 (z:Int)) (show 4=zAB t tm l from by first | exact (zCU (by omega)).symm | exact (zCT (by omega) (by omega)).symm | (rw [zCQ (by omega) (by omega)];first | exact ((zAk (j:=j) (by omega) hI1_1 (by rw [zBl (by omega)];decide)).trans (zBl (by omega))).symm | exact ((zAk (j:=j) (by omega) hI1_1 (by rw [zBE (by omega) (by omega)];decide)).trans (zBE (by omega) (by omega))).symm | (unfold zB3;rw [← show j=l.length by omega];exact hI1_1.symm))),rfl⟩
 refine go 3 [0] [31,3] (.c .z .n) ⟨rfl,?_⟩
 intro a w hs;refine zAG hs rfl (hs.rd0 hc).isSl underlying44 rfl ?_
 refine goL 1 [] [33,32,31,3] .n ?_
 refine cl (·.reslot (d:=3) (v:=zI (-1)) (v':=zI (zEG l 0)) rfl (Option.some.inj rfl)) ?_
 refine cl (·.drop (.c .z .n)) ?_
 intro a w hs;refine zCC (λmm_ a w=>∃ j:Nat,mm_=l.length-j∧St 54 [(3,zI (zEG l j)),(31,u),(32,nI l.length),(33,zI (j:Int))] w0 [] [] a w∧j≤l.length∧zET l j=0) ⟨0,rfl,hs.sub (.c rfl (.c rfl (.c rfl (.c rfl .n)))),by omega,rfl⟩ ?_
 clear hs w a;rintro mm_ a w ⟨j,rfl,hs,hI1_0,hI1_1⟩
 revert a w hs
 refine go 1 [] [34,3,31,32,33] .n ?_
 refine ifG rfl (λc_7=>?_) (λc_7=>?_)
 ·
  refine go 0 [] [3,31,32,33] .n ?_
  intro a w hs;refine zBF (j:=j) hs rfl rfl (hs.rd0 hc) rfl (by omega) underlying44 sizeOf48 rfl ?_
  intro a w hs;refine zAx (cs:=zBI (l.getD j default)) hs rfl (hs.rd0 hc) (zAZ zBa l j (by omega)) (by rw [zAN zBa];omega) (by omega) isAgg48 sizeOf48 rfl ?_
  refine goL 6 [0,0] [41,5,3,31,32,33] .n (λg8=>⟨rfl,rfl,?_⟩)
  intro a w hs;refine zX (b:=decide (((l.getD j default).id)<0)) (λc_9=>?_) (λc_9=>?_)
  ·
   rw [c_9] at hs
   replace c_9:=of_decide_eq_true c_9
   revert a w hs
   refine go 7 [] [2] .n ?_
   refine cl (·.drop (.c .z .n)) ?_
   intro a w hs;exact fin hs rfl rfl ⟨congrArg (λz:Nat=>Value.int .i64 (z:Int)) (show 3=zAB t tm l from by first | exact (zCU (by omega)).symm | exact (zCT (by omega) (by omega)).symm | (rw [zCQ (by omega) (by omega)];first | exact ((zAk (j:=j) (by omega) hI1_1 (by rw [zBl (by omega)];decide)).trans (zBl (by omega))).symm | exact ((zAk (j:=j) (by omega) hI1_1 (by rw [zBE (by omega) (by omega)];decide)).trans (zBE (by omega) (by omega))).symm | (unfold zB3;rw [← show j=l.length by omega];exact hI1_1.symm))),rfl⟩
  rw [c_9] at hs
  replace c_9:=of_decide_eq_false c_9
  revert a w hs
  refine go 5 [0] [37,5,3,31,32,33] (.c .z .n) ⟨rfl,?_⟩
  refine ifG rfl (λc_10=>?_) (λc_10=>?_)
  ·
   refine go 1 [] [2] .n ?_
   refine cl (·.drop (.c .z .n)) ?_
   intro a w hs;exact fin hs rfl rfl ⟨congrArg (λz:Nat=>Value.int .i64 (z:Int)) (show 3=zAB t tm l from by first | exact (zCU (by omega)).symm | exact (zCT (by omega) (by omega)).symm | (rw [zCQ (by omega) (by omega)];first | exact ((zAk (j:=j) (by omega) hI1_1 (by rw [zBl (by omega)];decide)).trans (zBl (by omega))).symm | exact ((zAk (j:=j) (by omega) hI1_1 (by rw [zBE (by omega) (by omega)];decide)).trans (zBE (by omega) (by omega))).symm | (unfold zB3;rw [← show j=l.length by omega];exact hI1_1.symm))),rfl⟩
  refine go 5 [0] [46,5,31,32,33] (.c .z .n) ⟨rfl,?_⟩
  refine ifG rfl (λc_11=>?_) (λc_11=>?_)
  ·
   refine go 1 [] [2] .n ?_
   refine cl (·.drop (.c .z .n)) ?_
   intro a w hs;exact fin hs rfl rfl ⟨congrArg (λz:Nat=>Value.int .i64 (z:Int)) (show 10=zAB t tm l from by first | exact (zCU (by omega)).symm | exact (zCT (by omega) (by omega)).symm | (rw [zCQ (by omega) (by omega)];first | exact ((zAk (j:=j) (by omega) hI1_1 (by rw [zBl (by omega)];decide)).trans (zBl (by omega))).symm | exact ((zAk (j:=j) (by omega) hI1_1 (by rw [zBE (by omega) (by omega)];decide)).trans (zBE (by omega) (by omega))).symm | (unfold zB3;rw [← show j=l.length by omega];exact hI1_1.symm))),rfl⟩
  refine go 5 [0] [33,3,31,32] (.c .z .n) ⟨rfl,(by omega),?_⟩
  refine cl (·.reslot (d:=3) (v:=zI ((l.getD j default).id)) (v':=zI (zEG l (j+1))) rfl (Option.some.inj rfl)) ?_
  refine cl (·.drop (.c .z .n)) ?_
  intro a w hs;refine ⟨_,?_,j+1,rfl,hs.sub (.c rfl (.c rfl (.c rfl (.c rfl .n)))),by omega,zTb hI1_1 (zXp (by omega) (by omega))⟩
  omega
 refine go 1 [] [2] .n ?_
 intro a w hs;exact fin hs rfl rfl ⟨congrArg (λz:Nat=>Value.int .i64 (z:Int)) (show 0=zAB t tm l from by first | exact (zCU (by omega)).symm | exact (zCT (by omega) (by omega)).symm | (rw [zCQ (by omega) (by omega)];first | exact ((zAk (j:=j) (by omega) hI1_1 (by rw [zBl (by omega)];decide)).trans (zBl (by omega))).symm | exact ((zAk (j:=j) (by omega) hI1_1 (by rw [zBE (by omega) (by omega)];decide)).trans (zBE (by omega) (by omega))).symm | (unfold zB3;rw [← show j=l.length by omega];exact hI1_1.symm))),rfl⟩
theorem zX2 (u:Value) (l:List zS) (w0:World) (hc:Rd w0 [] u 9 l.length (l.flatMap zBI)) (hsrt:Srt l):Calls Tryz.prog 188 #[u] w0 (Ret w0 [] λx N=>∃ g,x = .map (some g)∧N=[mpr g (ekv l)]):=by
 have hce:=hc.le
 simp only [maxLen] at hce
 refine zG (F0:=[(0,u)]) func188 rfl rfl rfl (.c .n) (Mem.nil _) ?_
 refine go 1 [] [0] .n ?_
 intro a w hs;refine zQ5 hs rfl ?_;intro g1
 refine goL 2 [] [7,3] .n ?_
 intro a w hs;refine zAG hs rfl (hs.rd0 hc).isSl underlying44 rfl ?_
 refine goL 1 [] [9,8,7,3] .n ?_
 refine cl (·.remap (l':=(l.take 0)) .z (by simp)) ?_
 intro a w hs;refine zCC (λmm_ a w=>∃ j:Nat,mm_=l.length-j∧St 19 [(3,.map (some g1)),(7,u),(8,nI l.length),(9,zI (j:Int))] w0 [] [mpr g1 (ekv (l.take j))] a w∧j≤l.length) ⟨0,rfl,hs.sub (.c rfl (.c rfl (.c rfl (.c rfl .n)))),by omega⟩ ?_
 clear hs w a;rintro mm_ a w ⟨j,rfl,hs,hI1_0⟩
 revert a w hs
 refine go 1 [] [10,3,7,8,9] .n ?_
 refine ifG rfl (λc_2=>?_) (λc_2=>?_)
 ·
  refine go 0 [] [3,7,8,9] .n ?_
  intro a w hs;refine zBF (j:=j) hs rfl rfl (hs.rd0 hc) rfl (by omega) underlying44 sizeOf48 rfl ?_
  intro a w hs;refine zAx (cs:=zBI (l.getD j default)) hs rfl (hs.rd0 hc) (zAZ zBa l j (by omega)) (by rw [zAN zBa];omega) (by omega) isAgg48 sizeOf48 rfl ?_
  refine goL 6 [0,0,0] [16,15,13,3,7,8,9] .n (λg3=>⟨rfl,rfl,rfl,?_⟩)
  intro a w hs;refine zMs (u:=(l.getD j default)) hs rfl rfl rfl (.s .z) (by first | rfl | assumption | omega) underlying180 underlying3 ?_
  refine goL 2 [] [9,3,7,8] .n ⟨(by omega),?_⟩
  refine cl (·.remap (l':=(l.take (j+1))) .z (zUI hsrt (by omega))) ?_
  refine cl (·.drop (.c (.s .z) .n)) ?_
  intro a w hs;refine ⟨_,?_,j+1,rfl,hs.sub (.c rfl (.c rfl (.c rfl (.c rfl .n)))),by omega⟩
  omega
 refine go 2 [] [2] .n ?_
 refine cl (·.remap (l':=l) .z (List.take_of_length_le (by omega))) ?_
 intro a w hs;exact fin hs rfl rfl ⟨_,rfl,rfl⟩
theorem zU5 (x:zS) (id:Int) (b:Nat) (w0:World) (hb:(blk b [.int .i64 id] 3).p w0):Calls Tryz.prog 34 #[.agg #[zI x.id,zI x.p0,zI x.p1,zI x.p2,zI x.v0,zI x.v1,zI x.v2,.int .u16 (((x.a).toNat:Nat):Int),bI x.g],pt b 0] w0 (zAh w0 (.bool ((x.id:Int)==id))):=by
 refine zG (F0:=[(0,.agg #[zI x.id,zI x.p0,zI x.p1,zI x.p2,zI x.v0,zI x.v1,zI x.v2,.int .u16 (((x.a).toNat:Nat):Int),bI x.g]),(1,pt b 0)]) func34 rfl rfl rfl (.c (.c .n)) (Mem.nil _) ?_
 refine go 4 [0,0] [5,1] .n (λg1=>⟨rfl,?_⟩)
 intro a w hs;refine zAC hs rfl (hs.mem.keep hb (by simp [zN,blk])) .z isAgg3 rfl ?_
 refine goL 2 [] [3] .n ?_
 refine cl (·.drop (.c .z .n)) ?_
 intro a w hs;exact fin hs rfl rfl ⟨rfl,rfl⟩
theorem zaz (u:Value) (l:List zS) (id:Int) (b:Nat) (w0:World) (hc:Rd w0 [] u 9 l.length (l.flatMap zBI)) (hb:(blk b [.int .i64 id] 3).p w0):Calls Tryz.prog 33 #[u,.func (.func 34) #[] #[pt b 0]] w0 (zAh w0 (zI (zMJ id l))):=by
 have hce:=hc.le
 simp only [maxLen] at hce
 refine zG (F0:=[(0,u),(1,.func (.func 34) #[] #[pt b 0])]) func33 rfl rfl rfl (.c (.c .n)) (Mem.nil _) ?_
 refine go 2 [] [6,0,1] .n ?_
 intro a w hs;refine zAG hs rfl (hs.rd0 hc).isSl underlying44 rfl ?_
 refine goL 1 [] [8,7,0,1] .n ?_
 intro a w hs;refine zCC (λmm_ a w=>∃ j:Nat,mm_=l.length-j∧St 19 [(0,u),(1,.func (.func 34) #[] #[pt b 0]),(7,nI l.length),(8,zI (j:Int))] w0 [] [] a w∧j≤l.length∧∀ i,i<j→(l.getD i default).id≠id) ⟨0,rfl,hs.sub (.c rfl (.c rfl (.c rfl (.c rfl .n)))),by omega,λi hi=>absurd hi (Nat.not_lt_zero i)⟩ ?_
 clear hs w a;rintro mm_ a w ⟨j,rfl,hs,hI1_0,hI1_1⟩
 revert a w hs
 refine go 1 [] [9,0,1,7,8] .n ?_
 refine ifG rfl (λc_1=>?_) (λc_1=>?_)
 ·
  refine go 5 [] [13,12,11,5,0,1,7,8] .n ?_
  intro a w hs;refine zBF (j:=j) hs rfl rfl (hs.rd0 hc) rfl (by omega) underlying44 sizeOf48 rfl ?_
  intro a w hs;refine zAx (cs:=zBI (l.getD j default)) hs rfl (hs.rd0 hc) (zAZ zBa l j (by omega)) (by rw [zAN zBa];omega) (by omega) isAgg48 sizeOf48 rfl ?_
  intro a w hs;refine zBD (us:=[pt b 0]) hs rfl (.c rfl .n) rfl call34 .n (zU5 (l.getD j default) _ _ _ (hs.mem.keep hb (by simp [zN,blk]))) rfl ?_;clear hs w a;rintro _ _ a w ⟨rfl,rfl⟩ hs
  revert a w hs
  refine goL 0 [] [16,5,0,1,7,8] .n ?_
  refine ifG rfl (λc_2=>?_) (λc_2=>?_)
  ·
   refine go 2 [] [4] .n ?_
   intro a w hs;exact fin hs rfl rfl ⟨congrArg (Value.int .i64) (by first | exact (zSx (by omega) hI1_1 (by assumption)).symm | exact (zKz λi hi=>hI1_1 i (by omega)).symm),rfl⟩
  refine go 2 [] [8,0,1,7] .n ⟨(by omega),?_⟩
  intro a w hs;refine ⟨_,?_,j+1,rfl,hs.sub (.c rfl (.c rfl (.c rfl (.c rfl .n)))),by omega,zUN hI1_1 (by assumption)⟩
  omega
 refine go 1 [] [4] .n ?_
 intro a w hs;exact fin hs rfl rfl ⟨congrArg (Value.int .i64) (by first | exact (zSx (by omega) hI1_1 (by assumption)).symm | exact (zKz λi hi=>hI1_1 i (by omega)).symm),rfl⟩
theorem zIM (t tm:Int) (u:Value) (l:List zS) (id:Int) (w0:World) (hc:Rd w0 [] u 9 l.length (l.flatMap zBI)):Calls Tryz.prog 10 #[.agg #[zI t,zI tm,u],.int .i64 id] w0 (zAh w0 (.tuple #[.agg #[zI (((zT id l).getD zAA).id),zI (((zT id l).getD zAA).p0),zI (((zT id l).getD zAA).p1),zI (((zT id l).getD zAA).p2),zI (((zT id l).getD zAA).v0),zI (((zT id l).getD zAA).v1),zI (((zT id l).getD zAA).v2),.int .u16 (((((zT id l).getD zAA).a).toNat:Nat):Int),bI (((zT id l).getD zAA).g)],.bool (zT id l).isSome])):=by
 have hce:=hc.le
 simp only [maxLen] at hce
 refine zG (F0:=[(0,.agg #[zI t,zI tm,u]),(1,zI id)]) func10 rfl rfl rfl (.c (.c .n)) (Mem.nil _) ?_
 refine go 7 [0,0,2] [9,8,4,2] .n (λg1=>λg2=>λg3=>⟨rfl,?_⟩)
 intro a w hs;refine zB (v:=zI (zMJ id l)) hs (.c rfl (.c rfl .n)) call33 (zaz _ l id _ _ (hs.rd0 hc) (hs.mem.del (.s .z))) rfl ?_
 refine goL 3 [] [12,6,4,2] .n ?_
 refine ifG rfl (λc_4=>?_) (λc_4=>?_)
 ·
  refine go 3 [0] [5,4] (.c .z .n) ⟨rfl,?_⟩
  intro a w hs;exact zBM hs rfl rfl rfl .z (.z (.c (.c (.c (.c (.c (.c (.c (.c (.c .n)))))))))) isAgg48 sizeOf48 (.c .z (.c .z (.c .z .n))) (by first | (rw [zRF (by assumption)];exact ⟨rfl,rfl⟩) | (rw [(zMv (by assumption)).2];exact ⟨rfl,rfl⟩))
 have hfr:=zMv (by assumption:¬ zMJ id l<0)
 have hfl:=hfr.1
 refine go 3 [0] [16,15,4] (.c (.s (.s .z)) .n) ⟨rfl,?_⟩
 intro a w hs;refine zBF (j:=(zMJ id l).toNat) hs rfl rfl (hs.rd0 hc) (by omega) (by omega) underlying44 sizeOf48 rfl ?_
 intro a w hs;refine zAx (cs:=zBI (l.getD ((zMJ id l).toNat) default)) hs rfl (hs.rd0 hc) (zAZ zBa l ((zMJ id l).toNat) (by omega)) (by rw [zAN zBa];omega) (by omega) isAgg48 sizeOf48 rfl ?_
 refine goL 2 [0] [5,4] (.c (.s .z) .n) ⟨rfl,?_⟩
 intro a w hs;exact zBM hs rfl rfl rfl .z (.z (.c (.c (.c (.c (.c (.c (.c (.c (.c .n)))))))))) isAgg48 sizeOf48 (.c .z (.c .z (.c .z .n))) (by first | (rw [zRF (by assumption)];exact ⟨rfl,rfl⟩) | (rw [(zMv (by assumption)).2];exact ⟨rfl,rfl⟩))
end Go.Proofs.YtljpfgacpofkpaaGreat
