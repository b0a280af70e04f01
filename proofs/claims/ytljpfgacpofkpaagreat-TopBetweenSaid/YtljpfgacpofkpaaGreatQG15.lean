import Derived.Test.YtljpfgacpofkpaaGreatQG13
import Derived.Test.YtljpfgacpofkpaaGreatQG14
import Derived.Test.YtljpfgacpofkpaaGreatQSxGrams
import Derived.Test.YtljpfgacpofkpaaGreatQSxRecs
import Derived.Test.YtljpfgacpofkpaaGreatQSxBasB
set_option linter.unusedVariables false
set_option linter.unusedSimpArgs false
namespace Go.Proofs.YtljpfgacpofkpaaGreat
open Tryz
open Go Go.Sx Go.RowKit
set_option maxRecDepth 4000
set_option maxHeartbeats 1000000
theorem zVi (t tm b:Int) (u:Value) (l:List zY) (w0:World) (ht_ : -9223372036854775808≤t∧t≤9223372036854775807) (htm_ : -9223372036854775808≤tm∧tm≤9223372036854775807) (hb_ : -9223372036854775808≤b∧b≤9223372036854775807) (hc:Rd w0 [] u 9 l.length (l.flatMap zDv)):Calls Tryz.prog 144 #[.agg #[.int .i64 t,.int .i64 tm,.int .i64 b,u]] w0 (Ret w0 [] λx N=>∃ v,x = .tuple #[v,nI (zFJ t tm b l.length)]∧N=[row v 5 1 (zBp t tm b l.length).length (zD (zBp t tm b l.length))]):=by
 have hce:=hc.le
 simp only [maxLen] at hce
 have hv1:=zC3 (BitVec.ofInt 64 t).toNat
 have hv2:=zC3 (zGY tm).toNat
 have hv3:=zC3 (BitVec.ofInt 64 (t-b)).toNat
 have hv4:=zC3 (BitVec.ofInt 64 (l.length:Int)).toNat
 have hv5:=zC3 (0#64).toNat
 refine zG (F0:=[(0,.agg #[zI t,zI tm,zI b,u])]) func144 rfl rfl rfl (.c .n) (Mem.nil _) ?_
 refine go 7 [0,0] [12,1] .n (λg1=>⟨rfl,?_⟩)
 intro a w hs;refine zX (b:=decide (t<0)) (λc_2=>?_) (λc_2=>?_)
 ·
  rw [c_2] at hs
  replace c_2:=of_decide_eq_true c_2
  revert a w hs
  refine go 19 [] [3,2] .n ?_
  have hge:zFJ t tm b l.length=3:=by first | exact zDi (by omega) | exact zCO (by omega) (by omega) | exact zDk (by omega) (by omega) (by omega) | exact zHC (by omega) (by omega) (by omega)
  refine cl (·.drop (.c .z .n)) ?_
  refine cl (·.addNil 5 1) ?_
  intro a w hs;replace hs:=hs.rerow .z (m':=(zBp t tm b l.length).length) (xs':=zD (zBp t tm b l.length)) (by rw [zBp,if_pos (by omega)];rfl) (by rw [zBp,if_pos (by omega)];rfl)
  exact zBO hs rfl rfl rfl ⟨_,congrArg (λz:Nat=>Value.tuple #[.slice none 0 0,zI (z:Int)]) hge.symm,rfl⟩
 rw [c_2] at hs
 replace c_2:=of_decide_eq_false c_2
 revert a w hs
 refine go 5 [0] [17,1] (.c .z .n) ⟨rfl,?_⟩
 intro a w hs;refine zX (b:=decide (4294967295<t)) (λc_3=>?_) (λc_3=>?_)
 ·
  rw [c_3] at hs
  replace c_3:=of_decide_eq_true c_3
  revert a w hs
  refine go 14 [] [3,2] .n ?_
  have hge:zFJ t tm b l.length=3:=by first | exact zDi (by omega) | exact zCO (by omega) (by omega) | exact zDk (by omega) (by omega) (by omega) | exact zHC (by omega) (by omega) (by omega)
  refine cl (·.drop (.c .z .n)) ?_
  refine cl (·.addNil 5 1) ?_
  intro a w hs;replace hs:=hs.rerow .z (m':=(zBp t tm b l.length).length) (xs':=zD (zBp t tm b l.length)) (by rw [zBp,if_pos (by omega)];rfl) (by rw [zBp,if_pos (by omega)];rfl)
  exact zBO hs rfl rfl rfl ⟨_,congrArg (λz:Nat=>Value.tuple #[.slice none 0 0,zI (z:Int)]) hge.symm,rfl⟩
 rw [c_3] at hs
 replace c_3:=of_decide_eq_false c_3
 revert a w hs
 refine go 2 [0] [19,17,1] (.c .z .n) ⟨rfl,?_⟩
 intro a w hs;refine zC hs rfl rfl rfl ?_
 refine zB (v:=.bool (decide (-2305843009213693952≤tm∧tm≤2305843009213693952))) hs (.c rfl .n) call199 (zLn tm _) rfl ?_
 refine goL 3 [] [23,1] .n ?_
 intro a w hs;refine zX (b:=!(decide (-2305843009213693952≤tm∧tm≤2305843009213693952))) (λc_4=>?_) (λc_4=>?_)
 ·
  rw [c_4] at hs
  replace c_4:=zFW c_4
  replace c_4:=of_decide_eq_false c_4
  revert a w hs
  refine go 8 [] [3,2] .n ?_
  have hge:zFJ t tm b l.length=3:=by first | exact zDi (by omega) | exact zCO (by omega) (by omega) | exact zDk (by omega) (by omega) (by omega) | exact zHC (by omega) (by omega) (by omega)
  refine cl (·.drop (.c .z .n)) ?_
  refine cl (·.addNil 5 1) ?_
  intro a w hs;replace hs:=hs.rerow .z (m':=(zBp t tm b l.length).length) (xs':=zD (zBp t tm b l.length)) (by rw [zBp,if_pos (by omega)];rfl) (by rw [zBp,if_pos (by omega)];rfl)
  exact zBO hs rfl rfl rfl ⟨_,congrArg (λz:Nat=>Value.tuple #[.slice none 0 0,zI (z:Int)]) hge.symm,rfl⟩
 rw [c_4] at hs
 replace c_4:=zFX c_4
 replace c_4:=of_decide_eq_true c_4
 revert a w hs
 refine go 5 [0] [8,1] (.c .z .n) ⟨rfl,?_⟩
 refine ifG rfl (λc_5=>?_) (λc_5=>?_)
 ·
  refine go 2 [] [3,2] .n ?_
  have hge:zFJ t tm b l.length=3:=by first | exact zDi (by omega) | exact zCO (by omega) (by omega) | exact zDk (by omega) (by omega) (by omega) | exact zHC (by omega) (by omega) (by omega)
  refine cl (·.drop (.c .z .n)) ?_
  refine cl (·.addNil 5 1) ?_
  intro a w hs;replace hs:=hs.rerow .z (m':=(zBp t tm b l.length).length) (xs':=zD (zBp t tm b l.length)) (by rw [zBp,if_pos (by omega)];rfl) (by rw [zBp,if_pos (by omega)];rfl)
  exact zBO hs rfl rfl rfl ⟨_,congrArg (λz:Nat=>Value.tuple #[.slice none 0 0,zI (z:Int)]) hge.symm,rfl⟩
 refine go 6 [0,0] [28,1] (.c .z .n) ⟨rfl,rfl,?_⟩
 refine ifG rfl (λc_6=>?_) (λc_6=>?_)
 ·
  refine go 2 [] [3,2] .n ?_
  have hge:zFJ t tm b l.length=10:=by first | exact zDi (by omega) | exact zCO (by omega) (by omega) | exact zDk (by omega) (by omega) (by omega) | exact zHC (by omega) (by omega) (by omega)
  refine cl (·.drop (.c .z .n)) ?_
  refine cl (·.addNil 5 1) ?_
  intro a w hs;replace hs:=hs.rerow .z (m':=(zBp t tm b l.length).length) (xs':=zD (zBp t tm b l.length)) (by rw [zBp,if_pos (by omega)];rfl) (by rw [zBp,if_pos (by omega)];rfl)
  exact zBO hs rfl rfl rfl ⟨_,congrArg (λz:Nat=>Value.tuple #[.slice none 0 0,zI (z:Int)]) hge.symm,rfl⟩
 refine go 2 [0] [36,1] (.c .z .n) ⟨rfl,?_⟩
 intro a w hs;refine zAG hs rfl (hs.rd0 hc).isSl underlying114 rfl ?_
 refine goL 2 [] [34,1] .n ?_
 refine ifG rfl (λc_7=>?_) (λc_7=>?_)
 ·
  refine go 2 [] [3,2] .n ?_
  have hge:zFJ t tm b l.length=8:=by first | exact zDi (by omega) | exact zCO (by omega) (by omega) | exact zDk (by omega) (by omega) (by omega) | exact zHC (by omega) (by omega) (by omega)
  refine cl (·.drop (.c .z .n)) ?_
  refine cl (·.addNil 5 1) ?_
  intro a w hs;replace hs:=hs.rerow .z (m':=(zBp t tm b l.length).length) (xs':=zD (zBp t tm b l.length)) (by rw [zBp,if_pos (by omega)];rfl) (by rw [zBp,if_pos (by omega)];rfl)
  exact zBO hs rfl rfl rfl ⟨_,congrArg (λz:Nat=>Value.tuple #[.slice none 0 0,zI (z:Int)]) hge.symm,rfl⟩
 refine go 4 [0] [41,4,1] (.c .z .n) ⟨rfl,?_⟩
 refine ifG rfl (λc_8=>?_) (λc_8=>?_)
 ·
  refine go 5 [0,0] [46,1] (.c .z .n) ⟨rfl,rfl,(by omega),?_⟩
  intro a w hs;refine zAg hs rfl underlying2 underlying252 rfl ?_
  refine goL 3 [] [5,4,1] .n (λg9=>?_)
  intro a w hs
  refine zAQ [.p [] [],.p [0] [0],.v [1] (qI (BitVec.ofInt 64 t)),.p [] [],.p [3] [0],.v [4] (qI (zGY tm)),.p [] [],.p [] [],.p [7] [0],.v [8] (nI l.length),.v [9] (qI (BitVec.ofInt 64 ((l.length:Nat):Int))),.x [10,6,5,2] ⟨[],[],[],λvs10=>vs10 11 = .slice (some ⟨(zBj (vs10 11)),0,none⟩) 4 4,λvs10=>[blk (zBj (vs10 11)) [qI (BitVec.ofInt 64 t),qI (zGY tm),qI (BitVec.ofInt 64 (t-b)),qI (BitVec.ofInt 64 ((l.length:Nat):Int))] 252],none⟩,.y [] (zI 4) [] [] [] λvs10=>[],.p [] []] [12,13] hs .n .n (.c (.s .z) .n) (by kernel_rfl) ⟨rfl,λ_ _ _ _ hm hs K=>zAg hs rfl underlying2 underlying252 rfl (vk K),rfl,λ_ _ _ _ hm hs K=>zB (v:=qI (zGY tm)) hs (.c rfl .n) call200 (zRR tm _ (by omega)) rfl (vk K),rfl,λ_ _ _ _ hm hs K=>zAG hs rfl (hm.rd0 hc).isSl underlying114 rfl (vk K),λ_ _ _ _ hm hs K=>zAg hs rfl underlying3 underlying252 rfl (vk K),⟨.n,by kernel_rfl,λ_=>rfl,rfl,rfl⟩,⟨?_,?_,trivial⟩,?_⟩
  ·
   intro a_ w_ R_ rest_ vs10 hm hs ht hx
   have hs0:=hs.bare
   refine zHt (cs:=[qI (BitVec.ofInt 64 t),qI (zGY tm),qI (BitVec.ofInt 64 (t-b)),qI (BitVec.ofInt 64 ((l.length:Nat):Int))]) hs (.c (.c (.c (.c .n)))) (.c rfl (.c rfl (.c rfl (.c rfl .n)))) underlying300 (ie:=Tryz.t252) rfl rfl rfl rfl (by decide) (by decide) rfl (by decide) rfl rfl rfl ?_;clear hs;intro g11 a w hs
   exact wpList_nil ⟨rfl,_,_,hs0,(.c (.c (.c (.c .r)))),hs,rfl⟩
  ·
   intro a_ w_ R_ rest_ vs10 hm hs ht hx
   have t11:=ht 11 (zJ 14 _ (by kernel_rfl))
   have e11:_=some (vs10 11):=t11.val rfl
   rw [show vs10 11 = .slice (some ⟨(zBj (vs10 11)),0,none⟩) 4 4 from t11.2.1] at e11
   replace hs:=hs.learn e11
   have hs0:=hs.bare
   refine zAG hs rfl (zAJ (m:=4) (size:=1) (hm.own (List.mem_append.2 (.inr ((ht 11 (zJ 14 _ (by kernel_rfl))).2.2 (zHo (n:=14) (by kernel_rfl)) _ (List.Mem.head _))))) rfl (by decide)).isSl underlying300 rfl ?_;clear hs;intro a w hs
   replace hs:=hs.recell (v':=zI 4) (Option.some.inj rfl)
   exact wpList_nil ⟨rfl,_,_,hs0,(.c .r),hs,rfl⟩
  clear hs w a;intro vs10 a w hs hf
  obtain ⟨e11,q11⟩:=hf 11 (by decide)
  replace e11:_=some (vs10 11):=e11.val rfl
  rw [show vs10 11 = .slice (some ⟨(zBj (vs10 11)),0,none⟩) 4 4 from q11] at e11
  replace hs:=hs.learn e11;clear e11 q11
  generalize zBj (vs10 11)=g12 at hs
  clear hf
  revert a w hs
  refine goE 0 [] [60,62,61,5] .n ?_
  intro a w hs;refine zCA 4 ?_
  revert a w hs
  refine go 2 [] [60,62,61,5] .n ?_
  intro a w hs;refine zA9 (j:=0) hs rfl rfl (zAJ (m:=4) (size:=1) (hs.mem.del (.s (.s .z))) rfl (by decide)) (by decide) (by omega) underlying300 sizeOf252 rfl ?_
  intro a w hs;refine zBf (u:=qI (BitVec.ofInt 64 t)) hs rfl (zAJ (m:=4) (size:=1) (hs.mem.del (.s (.s .z))) rfl (by decide)) (by rfl) isAgg252 rfl ?_
  refine goL 3 [] [67,66,60,62,61] .n ?_
  intro a w hs;refine zL hs (.c rfl .n) call201 .n (zEW (BitVec.ofInt 64 t) _) rfl ?_;clear hs w a;rintro v13 _ a w rfl hs
  replace hs:=hs.toRow (size:=1) (m:=2) (.s .z) rfl (by decide)
  refine zBH (size:=1) (bytes:=1) hs rfl rfl .z (zK (hs.mem.del (.s .z))) (zAR _) underlying28 (i:=Tryz.t5) rfl rfl rfl rfl rfl (by decide) (by omega) (by simp only [maxLen];omega) rfl ?_;intro v14
  refine goL 3 [] [62,5,60,61] .n ⟨by decide,?_⟩
  intro a w hs;refine zAL ?_
  revert a w hs
  refine go 2 [] [62,5,60,61] .n ?_
  intro a w hs;refine zA9 (j:=1) hs rfl rfl (zAJ (m:=4) (size:=1) (hs.mem.del (.s (.s (.s .z)))) rfl (by decide)) (by decide) (by omega) underlying300 sizeOf252 rfl ?_
  intro a w hs;refine zBf (u:=qI (zGY tm)) hs rfl (zAJ (m:=4) (size:=1) (hs.mem.del (.s (.s (.s .z)))) rfl (by decide)) (by rfl) isAgg252 rfl ?_
  refine goL 3 [] [67,66,62,60,61] .n ?_
  intro a w hs;refine zL hs (.c rfl .n) call201 .n (zEW (zGY tm) _) rfl ?_;clear hs w a;rintro v15 _ a w rfl hs
  refine zBH (size:=1) (bytes:=1) hs rfl rfl (.s .z) (zK (hs.mem.del .z)) (zAR _) underlying28 (i:=Tryz.t5) rfl rfl rfl rfl rfl (by decide) (by omega) (by simp only [maxLen];omega) rfl ?_;intro v16
  refine goL 3 [] [62,5,60,61] .n ⟨by decide,?_⟩
  intro a w hs;refine zAL ?_
  revert a w hs
  refine go 2 [] [62,5,60,61] .n ?_
  intro a w hs;refine zA9 (j:=2) hs rfl rfl (zAJ (m:=4) (size:=1) (hs.mem.del (.s (.s (.s (.s .z))))) rfl (by decide)) (by decide) (by omega) underlying300 sizeOf252 rfl ?_
  intro a w hs;refine zBf (u:=qI (BitVec.ofInt 64 (t-b))) hs rfl (zAJ (m:=4) (size:=1) (hs.mem.del (.s (.s (.s (.s .z))))) rfl (by decide)) (by rfl) isAgg252 rfl ?_
  refine goL 3 [] [67,66,62,60,61] .n ?_
  intro a w hs;refine zL hs (.c rfl .n) call201 .n (zEW (BitVec.ofInt 64 (t-b)) _) rfl ?_;clear hs w a;rintro v17 _ a w rfl hs
  refine zBH (size:=1) (bytes:=1) hs rfl rfl (.s .z) (zK (hs.mem.del .z)) (zAR _) underlying28 (i:=Tryz.t5) rfl rfl rfl rfl rfl (by decide) (by omega) (by simp only [maxLen];omega) rfl ?_;intro v18
  refine goL 3 [] [62,5,60,61] .n ⟨by decide,?_⟩
  intro a w hs;refine zAL ?_
  revert a w hs
  refine go 2 [] [62,5,60,61] .n ?_
  intro a w hs;refine zA9 (j:=3) hs rfl rfl (zAJ (m:=4) (size:=1) (hs.mem.del (.s (.s (.s (.s (.s .z)))))) rfl (by decide)) (by decide) (by omega) underlying300 sizeOf252 rfl ?_
  intro a w hs;refine zBf (u:=qI (BitVec.ofInt 64 ((l.length:Nat):Int))) hs rfl (zAJ (m:=4) (size:=1) (hs.mem.del (.s (.s (.s (.s (.s .z)))))) rfl (by decide)) (by rfl) isAgg252 rfl ?_
  refine goL 3 [] [67,66,62,60,61] .n ?_
  intro a w hs;refine zL hs (.c rfl .n) call201 .n (zEW (BitVec.ofInt 64 ((l.length:Nat):Int)) _) rfl ?_;clear hs w a;rintro v19 _ a w rfl hs
  refine zBH (size:=1) (bytes:=1) hs rfl rfl (.s .z) (zK (hs.mem.del .z)) (zAR _) underlying28 (i:=Tryz.t5) rfl rfl rfl rfl rfl (by decide) (by omega) (by simp only [maxLen];omega) rfl ?_;intro v20
  refine goL 3 [] [62,5,60,61] .n ⟨by decide,?_⟩
  intro a w hs;refine zAL ?_
  revert a w hs
  refine go 5 [] [3,2] .n ?_
  have hge:zFJ t tm b l.length=0:=by first | exact zDi (by omega) | exact zCO (by omega) (by omega) | exact zDk (by omega) (by omega) (by omega) | exact zHC (by omega) (by omega) (by omega)
  refine cl (·.drop (.c (.s (.s (.s (.s (.s (.s .z)))))) (.c (.s (.s (.s (.s (.s .z))))) (.c (.s (.s (.s (.s .z)))) (.c (.s (.s (.s .z))) (.c (.s (.s .z)) (.c (.s .z) .n))))))) ?_
  intro a w hs;replace hs:=hs.rerow .z (m':=(zBp t tm b l.length).length) (xs':=zD (zBp t tm b l.length)) (by rw [zBp,if_neg (by omega),zBK,zHO];(first | rw [if_pos (by omega)] | rw [if_neg (by omega)]);simp only [List.length_append,List.length_cons,List.length_nil,zBd]) (by rw [zBp,if_neg (by omega),zBK,zHO];(first | rw [if_pos (by omega)] | rw [if_neg (by omega)]);simp [zD,zKw])
  exact zBO hs rfl rfl rfl ⟨_,congrArg (λz:Nat=>Value.tuple #[v20,zI (z:Int)]) hge.symm,rfl⟩
 refine go 2 [] [5,4,1] .n (λg21=>?_)
 intro a w hs
 refine zAQ [.p [] [],.p [0] [0],.v [1] (qI (BitVec.ofInt 64 t)),.p [] [],.p [3] [0],.v [4] (qI (zGY tm)),.p [] [],.p [] [],.p [7] [0],.v [8] (nI l.length),.v [9] (qI (BitVec.ofInt 64 ((l.length:Nat):Int))),.x [10,6,5,2] ⟨[],[],[],λvs22=>vs22 11 = .slice (some ⟨(zBj (vs22 11)),0,none⟩) 4 4,λvs22=>[blk (zBj (vs22 11)) [qI (BitVec.ofInt 64 t),qI (zGY tm),.int .u64 (0),qI (BitVec.ofInt 64 ((l.length:Nat):Int))] 252],none⟩,.y [] (zI 4) [] [] [] λvs22=>[],.p [] []] [12,13] hs .n .n (.c (.s .z) .n) (by kernel_rfl) ⟨rfl,λ_ _ _ _ hm hs K=>zAg hs rfl underlying2 underlying252 rfl (vk K),rfl,λ_ _ _ _ hm hs K=>zB (v:=qI (zGY tm)) hs (.c rfl .n) call200 (zRR tm _ (by omega)) rfl (vk K),rfl,λ_ _ _ _ hm hs K=>zAG hs rfl (hm.rd0 hc).isSl underlying114 rfl (vk K),λ_ _ _ _ hm hs K=>zAg hs rfl underlying3 underlying252 rfl (vk K),⟨.n,by kernel_rfl,λ_=>rfl,rfl,rfl⟩,⟨?_,?_,trivial⟩,?_⟩
 ·
  intro a_ w_ R_ rest_ vs22 hm hs ht hx
  have hs0:=hs.bare
  refine zHt (cs:=[qI (BitVec.ofInt 64 t),qI (zGY tm),.int .u64 (0),qI (BitVec.ofInt 64 ((l.length:Nat):Int))]) hs (.c (.c (.c (.c .n)))) (.c rfl (.c rfl (.c rfl (.c rfl .n)))) underlying300 (ie:=Tryz.t252) rfl rfl rfl rfl (by decide) (by decide) rfl (by decide) rfl rfl rfl ?_;clear hs;intro g23 a w hs
  exact wpList_nil ⟨rfl,_,_,hs0,(.c (.c (.c (.c .r)))),hs,rfl⟩
 ·
  intro a_ w_ R_ rest_ vs22 hm hs ht hx
  have t11:=ht 11 (zJ 14 _ (by kernel_rfl))
  have e11:_=some (vs22 11):=t11.val rfl
  rw [show vs22 11 = .slice (some ⟨(zBj (vs22 11)),0,none⟩) 4 4 from t11.2.1] at e11
  replace hs:=hs.learn e11
  have hs0:=hs.bare
  refine zAG hs rfl (zAJ (m:=4) (size:=1) (hm.own (List.mem_append.2 (.inr ((ht 11 (zJ 14 _ (by kernel_rfl))).2.2 (zHo (n:=14) (by kernel_rfl)) _ (List.Mem.head _))))) rfl (by decide)).isSl underlying300 rfl ?_;clear hs;intro a w hs
  replace hs:=hs.recell (v':=zI 4) (Option.some.inj rfl)
  exact wpList_nil ⟨rfl,_,_,hs0,(.c .r),hs,rfl⟩
 clear hs w a;intro vs22 a w hs hf
 obtain ⟨e11,q11⟩:=hf 11 (by decide)
 replace e11:_=some (vs22 11):=e11.val rfl
 rw [show vs22 11 = .slice (some ⟨(zBj (vs22 11)),0,none⟩) 4 4 from q11] at e11
 replace hs:=hs.learn e11;clear e11 q11
 generalize zBj (vs22 11)=g24 at hs
 clear hf
 revert a w hs
 refine goE 0 [] [60,62,61,5] .n ?_
 intro a w hs;refine zCA 4 ?_
 revert a w hs
 refine go 2 [] [60,62,61,5] .n ?_
 intro a w hs;refine zA9 (j:=0) hs rfl rfl (zAJ (m:=4) (size:=1) (hs.mem.del (.s (.s .z))) rfl (by decide)) (by decide) (by omega) underlying300 sizeOf252 rfl ?_
 intro a w hs;refine zBf (u:=qI (BitVec.ofInt 64 t)) hs rfl (zAJ (m:=4) (size:=1) (hs.mem.del (.s (.s .z))) rfl (by decide)) (by rfl) isAgg252 rfl ?_
 refine goL 3 [] [67,66,60,62,61] .n ?_
 intro a w hs;refine zL hs (.c rfl .n) call201 .n (zEW (BitVec.ofInt 64 t) _) rfl ?_;clear hs w a;rintro v25 _ a w rfl hs
 replace hs:=hs.toRow (size:=1) (m:=2) (.s .z) rfl (by decide)
 refine zBH (size:=1) (bytes:=1) hs rfl rfl .z (zK (hs.mem.del (.s .z))) (zAR _) underlying28 (i:=Tryz.t5) rfl rfl rfl rfl rfl (by decide) (by omega) (by simp only [maxLen];omega) rfl ?_;intro v26
 refine goL 3 [] [62,5,60,61] .n ⟨by decide,?_⟩
 intro a w hs;refine zAL ?_
 revert a w hs
 refine go 2 [] [62,5,60,61] .n ?_
 intro a w hs;refine zA9 (j:=1) hs rfl rfl (zAJ (m:=4) (size:=1) (hs.mem.del (.s (.s (.s .z)))) rfl (by decide)) (by decide) (by omega) underlying300 sizeOf252 rfl ?_
 intro a w hs;refine zBf (u:=qI (zGY tm)) hs rfl (zAJ (m:=4) (size:=1) (hs.mem.del (.s (.s (.s .z)))) rfl (by decide)) (by rfl) isAgg252 rfl ?_
 refine goL 3 [] [67,66,62,60,61] .n ?_
 intro a w hs;refine zL hs (.c rfl .n) call201 .n (zEW (zGY tm) _) rfl ?_;clear hs w a;rintro v27 _ a w rfl hs
 refine zBH (size:=1) (bytes:=1) hs rfl rfl (.s .z) (zK (hs.mem.del .z)) (zAR _) underlying28 (i:=Tryz.t5) rfl rfl rfl rfl rfl (by decide) (by omega) (by simp only [maxLen];omega) rfl ?_;intro v28
 refine goL 3 [] [62,5,60,61] .n ⟨by decide,?_⟩
 intro a w hs;refine zAL ?_
 revert a w hs
 refine go 2 [] [62,5,60,61] .n ?_
 intro a w hs;refine zA9 (j:=2) hs rfl rfl (zAJ (m:=4) (size:=1) (hs.mem.del (.s (.s (.s (.s .z))))) rfl (by decide)) (by decide) (by omega) underlying300 sizeOf252 rfl ?_
 intro a w hs;refine zBf (u:=.int .u64 (0)) hs rfl (zAJ (m:=4) (size:=1) (hs.mem.del (.s (.s (.s (.s .z))))) rfl (by decide)) (by rfl) isAgg252 rfl ?_
 refine goL 3 [] [67,66,62,60,61] .n ?_
 intro a w hs;refine zL hs (.c rfl .n) call201 .n (zEW (0#64) _) rfl ?_;clear hs w a;rintro v29 _ a w rfl hs
 refine zBH (size:=1) (bytes:=1) hs rfl rfl (.s .z) (zK (hs.mem.del .z)) (zAR _) underlying28 (i:=Tryz.t5) rfl rfl rfl rfl rfl (by decide) (by omega) (by simp only [maxLen];omega) rfl ?_;intro v30
 refine goL 3 [] [62,5,60,61] .n ⟨by decide,?_⟩
 intro a w hs;refine zAL ?_
 revert a w hs
 refine go 2 [] [62,5,60,61] .n ?_
 intro a w hs;refine zA9 (j:=3) hs rfl rfl (zAJ (m:=4) (size:=1) (hs.mem.del (.s (.s (.s (.s (.s .z)))))) rfl (by decide)) (by decide) (by omega) underlying300 sizeOf252 rfl ?_
 intro a w hs;refine zBf (u:=qI (BitVec.ofInt 64 ((l.length:Nat):Int))) hs rfl (zAJ (m:=4) (size:=1) (hs.mem.del (.s (.s (.s (.s (.s .z)))))) rfl (by decide)) (by rfl) isAgg252 rfl ?_
 refine goL 3 [] [67,66,62,60,61] .n ?_
 intro a w hs;refine zL hs (.c rfl .n) call201 .n (zEW (BitVec.ofInt 64 ((l.length:Nat):Int)) _) rfl ?_;clear hs w a;rintro v31 _ a w rfl hs
 refine zBH (size:=1) (bytes:=1) hs rfl rfl (.s .z) (zK (hs.mem.del .z)) (zAR _) underlying28 (i:=Tryz.t5) rfl rfl rfl rfl rfl (by decide) (by omega) (by simp only [maxLen];omega) rfl ?_;intro v32
 refine goL 3 [] [62,5,60,61] .n ⟨by decide,?_⟩
 intro a w hs;refine zAL ?_
 revert a w hs
 refine go 5 [] [3,2] .n ?_
 have hge:zFJ t tm b l.length=0:=by first | exact zDi (by omega) | exact zCO (by omega) (by omega) | exact zDk (by omega) (by omega) (by omega) | exact zHC (by omega) (by omega) (by omega)
 refine cl (·.drop (.c (.s (.s (.s (.s (.s (.s .z)))))) (.c (.s (.s (.s (.s (.s .z))))) (.c (.s (.s (.s (.s .z)))) (.c (.s (.s (.s .z))) (.c (.s (.s .z)) (.c (.s .z) .n))))))) ?_
 intro a w hs;replace hs:=hs.rerow .z (m':=(zBp t tm b l.length).length) (xs':=zD (zBp t tm b l.length)) (by rw [zBp,if_neg (by omega),zBK,zHO];(first | rw [if_pos (by omega)] | rw [if_neg (by omega)]);simp only [List.length_append,List.length_cons,List.length_nil,zBd]) (by rw [zBp,if_neg (by omega),zBK,zHO];(first | rw [if_pos (by omega)] | rw [if_neg (by omega)]);simp [zD,zKw])
 exact zBO hs rfl rfl rfl ⟨_,congrArg (λz:Nat=>Value.tuple #[v32,zI (z:Int)]) hge.symm,rfl⟩
theorem zN6 (t tm b:Int) (u:Value) (l:List zY) (w0:World) (ht_ : -9223372036854775808≤t∧t≤9223372036854775807) (htm_ : -9223372036854775808≤tm∧tm≤9223372036854775807) (hb_ : -9223372036854775808≤b∧b≤9223372036854775807) (hc:Rd w0 [] u 9 l.length (l.flatMap zDv)) (hl:∀ x∈l,x.wf):Calls Tryz.prog 97 #[.agg #[.int .i64 t,.int .i64 tm,.int .i64 b,u]] w0 (Ret w0 [] λx N=>∃ v,x = .tuple #[v,nI (zAc t tm b l)]∧N=[row v 5 1 (zDe t tm b l).length (zD (zDe t tm b l))]):=by
 have hce:=hc.le
 simp only [maxLen] at hce
 refine zG (F0:=[(0,.agg #[zI t,zI tm,zI b,u])]) func97 rfl rfl rfl (.c .n) (Mem.nil _) ?_
 refine go 4 [0,0] [12,1] .n (λg1=>⟨rfl,?_⟩)
 intro a w hs;refine zL hs (.c rfl .n) call144 .n (zVi t tm b _ l _ (by omega) (by omega) (by omega) (hs.rd0 hc)) rfl ?_;clear hs w a;rintro _ _ a w ⟨v2,rfl,rfl⟩ hs
 have hk3:=zF5 t tm b l.length
 revert a w hs
 refine goL 7 [] [17,5,4,1] .n ?_
 refine ifG rfl (λc_4=>?_) (λc_4=>?_)
 ·
  refine go 3 [] [3,2] .n ?_
  have hbe:zAc t tm b l=zFJ t tm b l.length:=by first | exact zCF (by omega) | exact (zCF (by rw [(show zFJ t tm b l.length=_ by first | exact zDi (by omega) | exact zCO (by omega) (by omega) | exact zDk (by omega) (by omega) (by omega))];decide)).trans (show zFJ t tm b l.length=_ by first | exact zDi (by omega) | exact zCO (by omega) (by omega) | exact zDk (by omega) (by omega) (by omega)) | (rw [zCI (by omega)];exact zGo (by omega) hI1_1 (by unfold zFV;omega)) | (rw [zCI (by omega)];unfold zCg;rw [← show j=l.length by omega];exact hI1_1)
  refine cl (·.drop (.c (.s .z) (.c .z .n))) ?_
  refine cl (·.addNil 5 1) ?_
  intro a w hs;replace hs:=hs.rerow .z (m':=(zDe t tm b l).length) (xs':=zD (zDe t tm b l)) (by rw [zFu (by omega)];rfl) (by rw [zFu (by omega)];rfl)
  exact zBO hs rfl rfl rfl ⟨_,congrArg (λz:Nat=>Value.tuple #[.slice none 0 0,zI (z:Int)]) hbe.symm,rfl⟩
 have hgp:=zGh (t:=t) (tm:=tm) (b:=b) (m:=l.length) (by omega)
 refine cl (·.rerow .z (m':=(zBK t tm b l.length).length) (xs':=zD (zBK t tm b l.length)) (by rw [zBp,if_neg (by omega)]) (by rw [zBp,if_neg (by omega)])) ?_
 refine go 3 [0] [20,6,4] (.c (.s .z) .n) ⟨rfl,?_⟩
 intro a w hs;refine zAG hs rfl (hs.rd0 hc).isSl underlying114 rfl ?_
 refine goL 1 [] [22,21,20,6,4] .n ?_
 refine cl (·.drop (.c .z .n)) ?_
 intro a w hs;replace hs:=hs.rerow .z (m':=(zBK t tm b l.length).length+(zCn (l.take 0)).1.length) (xs':=zD (zBK t tm b l.length++(zCn (l.take 0)).1)) (by show _=_+0;first | rfl | (simp only [zBd,zBK,List.length_append,List.length_cons,List.length_nil];omega)) (by show _=zD (_++[]);rw [List.append_nil])
 refine zCC (λmm_ a w=>∃ j:Nat,∃ p:Value,mm_=l.length-j∧St 42 [(4,p),(6,zI ((zCn (l.take j)).2)),(20,u),(21,nI l.length),(22,zI (j:Int))] w0 [] [row p 5 1 ((zBK t tm b l.length).length+(zCn (l.take j)).1.length) (zD (zBK t tm b l.length++(zCn (l.take j)).1))] a w∧j≤l.length∧zCD l j=0) ⟨0,v2,rfl,hs.sub (.c rfl (.c rfl (.c rfl (.c rfl (.c rfl .n))))),by omega,rfl⟩ ?_
 clear hs w a;rintro mm_ a w ⟨j,p,rfl,hs,hI1_0,hI1_1⟩
 have hll:=zMM hI1_0 hI1_1
 have hrl:=zNd (l.take j)
 have htl:(l.take j).length≤j:=by rw [List.length_take];omega
 revert a w hs
 refine go 1 [] [23,4,6,20,21,22] .n ?_
 refine ifG rfl (λc_5=>?_) (λc_5=>?_)
 ·
  refine go 0 [] [4,6,20,21,22] .n ?_
  intro a w hs;refine zBF (j:=j) hs rfl rfl (hs.rd0 hc) rfl (by omega) underlying114 sizeOf161 rfl ?_
  intro a w hs;refine zAx (cs:=zDv (l.getD j default)) hs rfl (hs.rd0 hc) (zAZ zGI l j (by omega)) (by rw [zAN zGI];omega) (by omega) isAgg161 sizeOf161 rfl ?_
  refine goL 4 [0,0] [28,27,8,4,20,21,22] .n (λg6=>⟨rfl,rfl,?_⟩)
  intro a w hs;refine zL hs (.c rfl (.c rfl .n)) call145 .n (zVe (l.getD j default) ((zCn (l.take j)).2) _ (zL8 hl (by omega)) (by omega)) rfl ?_;clear hs w a;rintro _ _ a w ⟨v7,rfl,rfl⟩ hs
  have hk8:=zIV (l.getD j default) ((zCn (l.take j)).2)
  revert a w hs
  refine goL 7 [] [33,10,9,8,4,20,21,22] .n ?_
  refine ifG rfl (λc_9=>?_) (λc_9=>?_)
  ·
   refine go 3 [] [3,2] .n ?_
   have hbe:zAc t tm b l=zA6 (l.getD j default) ((zCn (l.take j)).2):=by first | exact zCF (by omega) | exact (zCF (by rw [(show zFJ t tm b l.length=_ by first | exact zDi (by omega) | exact zCO (by omega) (by omega) | exact zDk (by omega) (by omega) (by omega))];decide)).trans (show zFJ t tm b l.length=_ by first | exact zDi (by omega) | exact zCO (by omega) (by omega) | exact zDk (by omega) (by omega) (by omega)) | (rw [zCI (by omega)];exact zGo (by omega) hI1_1 (by unfold zFV;omega)) | (rw [zCI (by omega)];unfold zCg;rw [← show j=l.length by omega];exact hI1_1)
   refine cl (·.drop (.c (.s (.s .z)) (.c (.s .z) (.c .z .n)))) ?_
   refine cl (·.addNil 5 1) ?_
   intro a w hs;replace hs:=hs.rerow .z (m':=(zDe t tm b l).length) (xs':=zD (zDe t tm b l)) (by rw [zFu (by omega)];rfl) (by rw [zFu (by omega)];rfl)
   exact zBO hs rfl rfl rfl ⟨_,congrArg (λz:Nat=>Value.tuple #[.slice none 0 0,zI (z:Int)]) hbe.symm,rfl⟩
  refine go 0 [] [9,8,4,20,21,22] .n ?_
  refine cl (·.sub (F':=[(9,v7),(8,pt g6 0),(4,p),(20,u),(21,nI l.length),(22,zI (j:Int))]) (.c rfl (.c rfl (.c rfl (.c rfl (.c rfl (.c rfl .n))))))) ?_
  intro a w hs
  have hs1:=hs
  replace hs:=hs.sub (F':=[(9,v7),(8,pt g6 0),(20,u),(21,nI l.length),(22,zI (j:Int))]) (.c rfl (.c rfl (.c rfl (.c rfl (.c rfl .n)))))
  refine zSt (M0:=[row v7 5 1 ((zCk (l.getD j default) ((zCn (l.take j)).2)).length) (zD (zCk (l.getD j default) ((zCn (l.take j)).2))),blk g6 [zI ((l.getD j default).k),zI ((l.getD j default).id),zI ((l.getD j default).p0),zI ((l.getD j default).p1),zI ((l.getD j default).p2),zI ((l.getD j default).v0),zI ((l.getD j default).v1),zI ((l.getD j default).v2),.int .u16 ((((l.getD j default).a).toNat:Nat):Int)] 161]) (Ds:=[Pv 0 p,Pv 1 v7,⟨[row p 5 1 ((zBK t tm b l.length).length+(zCn (l.take j)).1.length) (zD (zBK t tm b l.length++(zCn (l.take j)).1))],[],[],λvs10=>True,λvs10=>[row (vs10 2) 5 1 (((zBK t tm b l.length).length+(zCn (l.take j)).1.length)+((zCk (l.getD j default) ((zCn (l.take j)).2)).length)) ((zD (zBK t tm b l.length++(zCn (l.take j)).1))++(zD (zCk (l.getD j default) ((zCn (l.take j)).2))))],none⟩,Pv 3 (pt g6 1),Pv 4 (zI ((l.getD j default).id)),⟨[],[],[2],λvs10=>vs10 5=(vs10 2),λvs10=>[],some (p)⟩,Pv 6 (zI ((l.getD j default).id))]) (by kernel_rfl) hs rfl (.c (.s (.s .z)) .n) (by kernel_rfl) (by kernel_rfl) ?_ (zWm.get (.z rfl (.z rfl (.z rfl (.z rfl (.z rfl (.s rfl rfl rfl (.z rfl .n))))))) hs1) ?_
  all_goals clear hs1
  ·
   refine (.c ?_ (.c ?_ (.c ?_ (.c ?_ (.c ?_ (.c ?_ (.c ?_ .n)))))))
   · exact zAt (m:=7) (.o (j:=5) (by kernel_rfl) rfl rfl .n) (λhm0 hm hx=>.n) (by kernel_rfl) (by kernel_rfl) rfl
   · exact zAt (m:=7) .n (λhm0 hm hx=>.n) (by kernel_rfl) (by kernel_rfl) rfl
   ·
    intro a_ w_ R_ rest_ vs10 hm hs ht hx
    replace hs:St _ _ _ (zN [row p 5 1 ((zBK t tm b l.length).length+(zCn (l.take j)).1.length) (zD (zBK t tm b l.length++(zCn (l.take j)).1))]) [row p 5 1 ((zBK t tm b l.length).length+(zCn (l.take j)).1.length) (zD (zBK t tm b l.length++(zCn (l.take j)).1))] _ _:=hs
    have hm0:=hm.mid
    replace hs:=hs.lrn (ht 0 (zJ 7 _ (by kernel_rfl))) rfl rfl
    replace hs:=hs.lrn (ht 1 (zJ 7 _ (by kernel_rfl))) rfl rfl
    have hs0:=hs.bare
    refine zBH (size:=1) (bytes:=1) hs rfl rfl .z (zK (hm0.del .z)) (zAR _) underlying28 (i:=Tryz.t5) rfl rfl rfl rfl rfl (by decide) (by omega) (by simp only [maxLen];omega) rfl ?_;clear hs;intro v11 a w hs
    exact wpList_nil ⟨rfl,_,_,hs0,(.c (.c .r)),hs,trivial⟩
   · exact zAt (m:=7) .n (λhm0 hm hx=>.n) (by kernel_rfl) (by kernel_rfl) rfl
   · exact zAt (m:=7) (.c (k:=3) (by kernel_rfl) rfl rfl .n) (λhm0 hm hx=>(.c (hm0.del (.s .z)))) (by kernel_rfl) (by kernel_rfl) rfl
   ·
    intro a_ w_ R_ rest_ vs10 hm hs ht hx
    have hm0:=hm.mid
    have t2:=ht 2 (zJ 7 _ (by kernel_rfl))
    have e2:_=some (vs10 2):=t2.val rfl
    replace hs:=hs.learn e2
    have hs0:=hs.bare
    refine zEd hs rfl rfl ?_;clear hs;intro a w hs
    exact wpList_nil ⟨rfl,_,_,hs0,(.c .r),hs,rfl⟩
   exact zAt (m:=7) (.c (k:=4) (by kernel_rfl) rfl rfl .n) (λhm0 hm hx=>.n) (by kernel_rfl) (by kernel_rfl) rfl
  clear hs w a;intro a w vs10 hs hf
  replace hs:St _ _ _ _ [row v7 5 1 ((zCk (l.getD j default) ((zCn (l.take j)).2)).length) (zD (zCk (l.getD j default) ((zCn (l.take j)).2))),blk g6 [zI ((l.getD j default).k),zI ((l.getD j default).id),zI ((l.getD j default).p0),zI ((l.getD j default).p1),zI ((l.getD j default).p2),zI ((l.getD j default).v0),zI ((l.getD j default).v1),zI ((l.getD j default).v2),.int .u16 ((((l.getD j default).a).toNat:Nat):Int)] 161,row (vs10 2) 5 1 (((zBK t tm b l.length).length+(zCn (l.take j)).1.length)+((zCk (l.getD j default) ((zCn (l.take j)).2)).length)) ((zD (zBK t tm b l.length++(zCn (l.take j)).1))++(zD (zCk (l.getD j default) ((zCn (l.take j)).2))))] _ _:=hs
  obtain ⟨e5,q5⟩:=hf 5 (by decide)
  replace e5:_=some (vs10 5):=e5.val rfl
  rw [show vs10 5=(vs10 2) from q5] at e5
  replace hs:=hs.learn e5;clear e5 q5
  obtain ⟨e6,q6⟩:=hf 6 (by decide)
  replace e6:_=some (vs10 6):=e6.val rfl
  rw [show vs10 6=zI ((l.getD j default).id) from q6] at e6
  replace hs:=hs.learn e6;clear e6 q6
  generalize vs10 2=v12 at hs
  clear hf
  revert a w hs
  refine goE 2 [] [22,6,4,20,21] .n ⟨(by omega),?_⟩
  have he0:zFV l j=0:=by unfold zFV;omega
  intro a w hs;replace hs:=hs.rerow (.s (.s .z)) (m':=(zBK t tm b l.length).length+(zCn (l.take (j+1))).1.length) (xs':=zD (zBK t tm b l.length++(zCn (l.take (j+1))).1)) (by rw [zCq (by omega)];simp only [List.length_append];omega) (by rw [zCq (by omega)];simp [zD])
  replace hs:=hs.reslot (d:=6) (v:=zI ((l.getD j default).id)) (v':=zI ((zCn (l.take (j+1))).2)) rfl (Option.some.inj (by rw [zCq (by omega)]))
  replace hs:=hs.drop (.c (.s (.s .z)) (.c (.s .z) .n))
  refine ⟨_,?_,j+1,v12,rfl,hs.sub (.c rfl (.c rfl (.c rfl (.c rfl (.c rfl .n))))),by omega,zR8 hI1_1 he0⟩
  omega
 refine go 3 [] [3,2] .n ?_
 have hbe:zAc t tm b l=0:=by first | exact zCF (by omega) | exact (zCF (by rw [(show zFJ t tm b l.length=_ by first | exact zDi (by omega) | exact zCO (by omega) (by omega) | exact zDk (by omega) (by omega) (by omega))];decide)).trans (show zFJ t tm b l.length=_ by first | exact zDi (by omega) | exact zCO (by omega) (by omega) | exact zDk (by omega) (by omega) (by omega)) | (rw [zCI (by omega)];exact zGo (by omega) hI1_1 (by unfold zFV;omega)) | (rw [zCI (by omega)];unfold zCg;rw [← show j=l.length by omega];exact hI1_1)
 have hta:l.take j=l:=List.take_of_length_le (by omega)
 intro a w hs;replace hs:=hs.rerow .z (m':=(zDe t tm b l).length) (xs':=zD (zDe t tm b l)) (by rw [zJo hbe,hta];simp only [List.length_append]) (by rw [zJo hbe,hta])
 exact zBO hs rfl rfl rfl ⟨_,congrArg (λz:Nat=>Value.tuple #[p,zI (z:Int)]) hbe.symm,rfl⟩
theorem zSV (t tm b:Int) (u:Value) (l:List zY) (w0:World) (ht_ : -9223372036854775808≤t∧t≤9223372036854775807) (htm_ : -9223372036854775808≤tm∧tm≤9223372036854775807) (hb_ : -9223372036854775808≤b∧b≤9223372036854775807) (hc:Rd w0 [] u 9 l.length (l.flatMap zDv)) (hl:∀ x∈l,x.wf):Calls Tryz.prog 58 #[.agg #[.int .i64 t,.int .i64 tm,.int .i64 b,u]] w0 (Ret w0 [] λx N=>∃ v,x = .tuple #[v,nI (zFr t tm b l)]∧N=[row v 5 1 (gwB t tm b l).length (zD (gwB t tm b l))]):=by
 have hce:=hc.le
 simp only [maxLen] at hce
 refine zG (F0:=[(0,.agg #[zI t,zI tm,zI b,u])]) func58 rfl rfl rfl (.c .n) (Mem.nil _) ?_
 refine go 4 [0,0] [7] .n (λg1=>⟨rfl,?_⟩)
 intro a w hs;refine zL hs (.c rfl .n) call97 .n (zN6 t tm b _ l _ (by omega) (by omega) (by omega) (hs.rd0 hc) hl) rfl ?_;clear hs w a;rintro _ _ a w ⟨v2,rfl,rfl⟩ hs
 have hk3:=zG8 t tm b l
 revert a w hs
 refine goL 8 [] [11,5,4] .n ?_
 refine ifG rfl (λc_4=>?_) (λc_4=>?_)
 ·
  refine go 3 [] [3,2] .n ?_
  have hwe:zFr t tm b l=zAc t tm b l:=by unfold zFr;(repeat' split)<;>omega
  refine cl (·.drop (.c (.s .z) (.c .z .n))) ?_
  refine cl (·.addNil 5 1) ?_
  intro a w hs;replace hs:=hs.rerow .z (m':=(gwB t tm b l).length) (xs':=zD (gwB t tm b l)) (by rw [gwB,if_pos (by omega)];rfl) (by rw [gwB,if_pos (by omega)];rfl)
  exact zBO hs rfl rfl rfl ⟨_,congrArg (λz:Nat=>Value.tuple #[.slice none 0 0,zI (z:Int)]) hwe.symm,rfl⟩
 refine go 1 [] [16,4] .n ?_
 intro a w hs;refine zAG hs rfl (zK (hs.mem.del .z)).isSl underlying28 rfl ?_
 refine goL 2 [] [15,4] .n ?_
 refine ifG rfl (λc_5=>?_) (λc_5=>?_)
 ·
  refine go 2 [] [3,2] .n ?_
  have hwe:zFr t tm b l=8:=by unfold zFr;(repeat' split)<;>omega
  refine cl (·.drop (.c (.s .z) (.c .z .n))) ?_
  refine cl (·.addNil 5 1) ?_
  intro a w hs;replace hs:=hs.rerow .z (m':=(gwB t tm b l).length) (xs':=zD (gwB t tm b l)) (by rw [gwB,if_pos (by omega)];rfl) (by rw [gwB,if_pos (by omega)];rfl)
  exact zBO hs rfl rfl rfl ⟨_,congrArg (λz:Nat=>Value.tuple #[.slice none 0 0,zI (z:Int)]) hwe.symm,rfl⟩
 refine go 1 [] [19] .n ?_
 intro a w hs;refine zL hs (.c rfl .n) call98 .n (zYx _ _ (zDe t tm b l) _ (zK (hs.mem.del .z)) (by omega)) rfl ?_;clear hs w a;rintro v6 _ a w rfl hs
 revert a w hs
 refine goL 2 [] [3,2] .n ?_
 have hwe:zFr t tm b l=0:=by unfold zFr;(repeat' split)<;>omega
 refine cl (·.drop (.c (.s (.s .z)) (.c (.s .z) .n))) ?_
 refine cl (·.rerow .z (m':=(gwB t tm b l).length) (xs':=zD (gwB t tm b l)) (by rw [gwB,if_neg (by omega),zER]) (by rw [gwB,if_neg (by omega)])) ?_
 intro a w hs;exact zBO hs rfl rfl rfl ⟨_,congrArg (λz:Nat=>Value.tuple #[v6,zI (z:Int)]) hwe.symm,rfl⟩
theorem zQz (t tm b:Int) (u:Value) (l:List zY) (w0:World) (ht_ : -9223372036854775808≤t∧t≤9223372036854775807) (htm_ : -9223372036854775808≤tm∧tm≤9223372036854775807) (hb_ : -9223372036854775808≤b∧b≤9223372036854775807) (hc:Rd w0 [] u 9 l.length (l.flatMap zDv)) (hl:∀ x∈l,x.wf):Calls Tryz.prog 187 #[.agg #[.int .i64 t,.int .i64 tm,.int .i64 b,u]] w0 (zAh w0 (nI (zAc t tm b l))):=by
 have hce:=hc.le
 simp only [maxLen] at hce
 refine zG (F0:=[(0,.agg #[zI t,zI tm,zI b,u])]) func187 rfl rfl rfl (.c .n) (Mem.nil _) ?_
 refine go 3 [0,0] [6] .n (λg1=>⟨rfl,?_⟩)
 intro a w hs;refine zL hs (.c rfl .n) call97 .n (zN6 t tm b _ l _ (by omega) (by omega) (by omega) (hs.rd0 hc) hl) rfl ?_;clear hs w a;rintro _ _ a w ⟨v2,rfl,rfl⟩ hs
 have hk3:=zG8 t tm b l
 revert a w hs
 refine goL 7 [] [2] .n ?_
 refine cl (·.drop (.c (.s .z) (.c .z .n))) ?_
 intro a w hs;exact fin hs rfl rfl ⟨rfl,rfl⟩
theorem zZC (ea eb:zS) (w0:World):Calls Tryz.prog 140 #[.agg #[zI ea.id,zI ea.p0,zI ea.p1,zI ea.p2,zI ea.v0,zI ea.v1,zI ea.v2,.int .u16 (((ea.a).toNat:Nat):Int),bI ea.g],.agg #[zI eb.id,zI eb.p0,zI eb.p1,zI eb.p2,zI eb.v0,zI eb.v1,zI eb.v2,.int .u16 (((eb.a).toNat:Nat):Int),bI eb.g]] w0 (zAh w0 (.tuple #[.agg #[zI (((zAH ea eb).1).k),zI (((zAH ea eb).1).id),zI (((zAH ea eb).1).p0),zI (((zAH ea eb).1).p1),zI (((zAH ea eb).1).p2),zI (((zAH ea eb).1).v0),zI (((zAH ea eb).1).v1),zI (((zAH ea eb).1).v2),.int .u16 (((((zAH ea eb).1).a).toNat:Nat):Int)],.bool (zAH ea eb).2])):=by
 refine zG (F0:=[(0,.agg #[zI ea.id,zI ea.p0,zI ea.p1,zI ea.p2,zI ea.v0,zI ea.v1,zI ea.v2,.int .u16 (((ea.a).toNat:Nat):Int),bI ea.g]),(1,.agg #[zI eb.id,zI eb.p0,zI eb.p1,zI eb.p2,zI eb.v0,zI eb.v1,zI eb.v2,.int .u16 (((eb.a).toNat:Nat):Int),bI eb.g])]) func140 rfl rfl rfl (.c (.c .n)) (Mem.nil _) ?_
 refine goF 14 7 [0,0,2,1] [13,4,3,2] .n (λg1=>λg2=>λg3=>⟨rfl,rfl,by kernel_rfl,?_⟩)
 refine cl (·.recell (v':=.bool (zIr ea eb)) (Option.some.inj rfl)) ?_
 refine go 0 [] [13,4,3,2] .n ?_
 refine ifG rfl (λc_4=>?_) (λc_4=>?_)
 ·
  refine go 3 [0] [5,4] (.c .z .n) ⟨rfl,?_⟩
  intro a w hs;exact zBM hs rfl rfl rfl .z (.z (.c (.c (.c (.c (.c (.c (.c (.c (.c .n)))))))))) isAgg161 sizeOf161 (.c .z (.c .z (.c .z .n))) (by first | (rw [zFP (by assumption)];exact ⟨rfl,rfl⟩) | (rw [zDZ (by assumption) (by omega)];exact ⟨rfl,rfl⟩) | (rw [zDU (by assumption) (by omega)];exact ⟨rfl,rfl⟩))
 refine go 16 [0,0,0,0,0,2,1] [28,6,4,2] (.c (.s .z) (.c (.s .z) .n)) ⟨rfl,rfl,rfl,rfl,λg5=>⟨rfl,rfl,rfl,?_⟩⟩
 refine ifG rfl (λc_6=>?_) (λc_6=>?_)
 ·
  refine go 9 [0,1,1,0] [7,6,4,2] (.c .z (.c (.s .z) .n)) ⟨rfl,rfl,rfl,λg7=>⟨rfl,?_⟩⟩
  intro a w hs;refine zB (v:=.agg #[pt g7 2,pt g7 3,pt g7 4,pt g7 5,pt g7 6,pt g7 7]) hs (.c rfl .n) call195 (zHq g7 _) rfl ?_
  refine goL 2 [0] [8,6,4,2] .n (λg8=>⟨rfl,?_⟩)
  intro a w hs;refine zB (v:=.agg #[pt g5 2,pt g5 3,pt g5 4,pt g5 5,pt g5 6,pt g5 7]) hs (.c rfl .n) call195 (zHq g5 _) rfl ?_
  refine goL 1 [] [37,36,8,6,4,2] .n ?_
  intro a w hs;refine zCA 6 ?_
  revert a w hs
  refine go 6 [] [10,9,37,36,8,6,4,2] .n ?_
  intro a w hs
  refine zO [.p [] [],.p [0] [],.l [1] [0] [10] [],.p [] [],.p [3] [],.p [4] [0],.p [5] [],.p [6] [1],.v [7,2] (zI (IntKind.i64.wrap (eb.p0-ea.p0))),.p [0] [],.s [9,8] [0] [0] []] [] hs (.c (.s (.s .z)) .n) (.c .z (.c .z .n)) (by kernel_rfl) ⟨rfl,rfl,rfl,λ_ _ _ _ hm hs K=>zEp hs rfl rfl rfl (vk K),rfl,⟨rfl,by kernel_rfl,λ_=>rfl,rfl,rfl,trivial⟩,λ_=>rfl,?_⟩
  refine goE 2 [] [37,36,8,6,4,2] .n ⟨by decide,?_⟩
  intro a w hs;refine zAL ?_
  revert a w hs
  refine go 6 [] [10,9,37,36,8,6,4,2] .n ?_
  intro a w hs
  refine zO [.p [] [],.p [0] [],.l [1] [0] [10] [],.p [] [],.p [3] [],.p [4] [0],.p [5] [],.p [6] [1],.v [7,2] (zI (IntKind.i64.wrap (eb.p1-ea.p1))),.p [0] [],.s [9,8] [0] [0] []] [] hs (.c (.s (.s (.s (.s (.s .z))))) .n) (.c .z (.c .z .n)) (by kernel_rfl) ⟨rfl,rfl,rfl,λ_ _ _ _ hm hs K=>zEp hs rfl rfl rfl (vk K),rfl,⟨rfl,by kernel_rfl,λ_=>rfl,rfl,rfl,trivial⟩,λ_=>rfl,?_⟩
  refine goE 2 [] [37,36,8,6,4,2] .n ⟨by decide,?_⟩
  intro a w hs;refine zAL ?_
  revert a w hs
  refine go 6 [] [10,9,37,36,8,6,4,2] .n ?_
  intro a w hs
  refine zO [.p [] [],.p [0] [],.l [1] [0] [10] [],.p [] [],.p [3] [],.p [4] [0],.p [5] [],.p [6] [1],.v [7,2] (zI (IntKind.i64.wrap (eb.p2-ea.p2))),.p [0] [],.s [9,8] [0] [0] []] [] hs (.c (.s (.s (.s (.s (.s .z))))) .n) (.c .z (.c .z .n)) (by kernel_rfl) ⟨rfl,rfl,rfl,λ_ _ _ _ hm hs K=>zEp hs rfl rfl rfl (vk K),rfl,⟨rfl,by kernel_rfl,λ_=>rfl,rfl,rfl,trivial⟩,λ_=>rfl,?_⟩
  refine goE 2 [] [37,36,8,6,4,2] .n ⟨by decide,?_⟩
  intro a w hs;refine zAL ?_
  revert a w hs
  refine go 6 [] [10,9,37,36,8,6,4,2] .n ?_
  intro a w hs
  refine zO [.p [] [],.p [0] [],.l [1] [0] [10] [],.p [] [],.p [3] [],.p [4] [0],.p [5] [],.p [6] [1],.v [7,2] (zI (IntKind.i64.wrap (eb.v0-ea.v0))),.p [0] [],.s [9,8] [0] [0] []] [] hs (.c (.s (.s (.s (.s (.s .z))))) .n) (.c .z (.c .z .n)) (by kernel_rfl) ⟨rfl,rfl,rfl,λ_ _ _ _ hm hs K=>zEp hs rfl rfl rfl (vk K),rfl,⟨rfl,by kernel_rfl,λ_=>rfl,rfl,rfl,trivial⟩,λ_=>rfl,?_⟩
  refine goE 2 [] [37,36,8,6,4,2] .n ⟨by decide,?_⟩
  intro a w hs;refine zAL ?_
  revert a w hs
  refine go 6 [] [10,9,37,36,8,6,4,2] .n ?_
  intro a w hs
  refine zO [.p [] [],.p [0] [],.l [1] [0] [10] [],.p [] [],.p [3] [],.p [4] [0],.p [5] [],.p [6] [1],.v [7,2] (zI (IntKind.i64.wrap (eb.v1-ea.v1))),.p [0] [],.s [9,8] [0] [0] []] [] hs (.c (.s (.s (.s (.s (.s .z))))) .n) (.c .z (.c .z .n)) (by kernel_rfl) ⟨rfl,rfl,rfl,λ_ _ _ _ hm hs K=>zEp hs rfl rfl rfl (vk K),rfl,⟨rfl,by kernel_rfl,λ_=>rfl,rfl,rfl,trivial⟩,λ_=>rfl,?_⟩
  refine goE 2 [] [37,36,8,6,4,2] .n ⟨by decide,?_⟩
  intro a w hs;refine zAL ?_
  revert a w hs
  refine go 6 [] [10,9,37,36,8,6,4,2] .n ?_
  intro a w hs
  refine zO [.p [] [],.p [0] [],.l [1] [0] [10] [],.p [] [],.p [3] [],.p [4] [0],.p [5] [],.p [6] [1],.v [7,2] (zI (IntKind.i64.wrap (eb.v2-ea.v2))),.p [0] [],.s [9,8] [0] [0] []] [] hs (.c (.s (.s (.s (.s (.s .z))))) .n) (.c .z (.c .z .n)) (by kernel_rfl) ⟨rfl,rfl,rfl,λ_ _ _ _ hm hs K=>zEp hs rfl rfl rfl (vk K),rfl,⟨rfl,by kernel_rfl,λ_=>rfl,rfl,rfl,trivial⟩,λ_=>rfl,?_⟩
  refine goE 2 [] [37,36,8,6,4,2] .n ⟨by decide,?_⟩
  intro a w hs;refine zAL ?_
  revert a w hs
  refine go 6 [0,1] [55,53,6,4] (.c (.s (.s (.s (.s (.s .z))))) (.c (.s (.s .z)) .n)) ⟨rfl,rfl,?_⟩
  intro a w hs;refine zJQ (X:=eb.a) (Y:=ea.a) hs rfl rfl rfl rfl rfl ?_
  refine goL 5 [0,0,1] [5,4] (.c .z (.c (.s (.s (.s (.s .z)))) .n)) ⟨rfl,rfl,rfl,?_⟩
  intro a w hs;exact zBM hs rfl rfl rfl (.s .z) (.z (.c (.c (.c (.c (.c (.c (.c (.c (.c .n)))))))))) isAgg161 sizeOf161 (.c .z (.c .z (.c .z (.c .z (.c .z (.c .z .n)))))) (by first | (rw [zFP (by assumption)];exact ⟨rfl,rfl⟩) | (rw [zDZ (by assumption) (by omega)];exact ⟨rfl,rfl⟩) | (rw [zDU (by assumption) (by omega)];exact ⟨rfl,rfl⟩))
 refine go 3 [0,1] [5,4] (.c .z (.c (.s (.s .z)) .n)) ⟨rfl,rfl,?_⟩
 intro a w hs;exact zBM hs rfl rfl rfl (.s .z) (.z (.c (.c (.c (.c (.c (.c (.c (.c (.c .n)))))))))) isAgg161 sizeOf161 (.c .z (.c .z (.c .z (.c .z .n)))) (by first | (rw [zFP (by assumption)];exact ⟨rfl,rfl⟩) | (rw [zDZ (by assumption) (by omega)];exact ⟨rfl,rfl⟩) | (rw [zDU (by assumption) (by omega)];exact ⟨rfl,rfl⟩))
theorem zVs (ea:zS) (r:zY) (w0:World):Calls Tryz.prog 189 #[.agg #[zI ea.id,zI ea.p0,zI ea.p1,zI ea.p2,zI ea.v0,zI ea.v1,zI ea.v2,.int .u16 (((ea.a).toNat:Nat):Int),bI ea.g],.agg #[zI r.k,zI r.id,zI r.p0,zI r.p1,zI r.p2,zI r.v0,zI r.v1,zI r.v2,.int .u16 (((r.a).toNat:Nat):Int)]] w0 (zAh w0 (.tuple #[.agg #[zI (((zU ea r).1).id),zI (((zU ea r).1).p0),zI (((zU ea r).1).p1),zI (((zU ea r).1).p2),zI (((zU ea r).1).v0),zI (((zU ea r).1).v1),zI (((zU ea r).1).v2),.int .u16 (((((zU ea r).1).a).toNat:Nat):Int),bI (((zU ea r).1).g)],nI ((zU ea r).2)])):=by
 refine zG (F0:=[(0,.agg #[zI ea.id,zI ea.p0,zI ea.p1,zI ea.p2,zI ea.v0,zI ea.v1,zI ea.v2,.int .u16 (((ea.a).toNat:Nat):Int),bI ea.g]),(1,.agg #[zI r.k,zI r.id,zI r.p0,zI r.p1,zI r.p2,zI r.v0,zI r.v1,zI r.v2,.int .u16 (((r.a).toNat:Nat):Int)])]) func189 rfl rfl rfl (.c (.c .n)) (Mem.nil _) ?_
 refine go 5 [0,0,1] [8,4,3,2] .n (λg1=>λg2=>λg3=>⟨rfl,?_⟩)
 intro a w hs;refine zB (v:=nI (zAY r)) hs (.c rfl .n) call202 (zWg r _) rfl ?_
 refine goL 3 [] [11,6,4,3,2] .n ?_
 refine ifG rfl (λc_4=>?_) (λc_4=>?_)
 ·
  refine go 4 [0] [5,4] (.c .z .n) ⟨rfl,?_⟩
  intro a w hs;exact zBM hs rfl rfl rfl .z (.z (.c (.c (.c (.c (.c (.c (.c (.c (.c .n)))))))))) isAgg48 sizeOf48 (.c .z (.c .z (.c .z .n))) (by first | (rw [zCJ (by omega)];exact ⟨rfl,rfl⟩) | (rw [zCd (by omega) (by omega)];exact ⟨rfl,rfl⟩) | (rw [zBW (by omega) (by omega) (by omega)];exact ⟨rfl,rfl⟩) | (rw [zBU (by omega) (by omega) (by omega)];exact ⟨rfl,rfl⟩))
 refine go 6 [0,1] [20,4,3,2] (.c (.s .z) (.c (.s .z) .n)) ⟨rfl,rfl,?_⟩
 intro a w hs;refine zX (b:=!((r.id:Int)==ea.id)) (λc_5=>?_) (λc_5=>?_)
 ·
  rw [c_5] at hs
  replace c_5:=zFW c_5
  replace c_5:=zAW c_5
  revert a w hs
  refine go 14 [0] [5,4] (.c (.s (.s .z)) .n) ⟨rfl,?_⟩
  intro a w hs;exact zBM hs rfl rfl rfl .z (.z (.c (.c (.c (.c (.c (.c (.c (.c (.c .n)))))))))) isAgg48 sizeOf48 (.c .z (.c .z (.c .z .n))) (by first | (rw [zCJ (by omega)];exact ⟨rfl,rfl⟩) | (rw [zCd (by omega) (by omega)];exact ⟨rfl,rfl⟩) | (rw [zBW (by omega) (by omega) (by omega)];exact ⟨rfl,rfl⟩) | (rw [zBU (by omega) (by omega) (by omega)];exact ⟨rfl,rfl⟩))
 rw [c_5] at hs
 replace c_5:=zFX c_5
 replace c_5:=eq_of_beq c_5
 revert a w hs
 refine go 5 [0] [25,4,3,2] (.c .z .n) ⟨rfl,?_⟩
 intro a w hs;refine zX (b:=(r.k:Int)==0) (λc_6=>?_) (λc_6=>?_)
 ·
  rw [c_6] at hs
  replace c_6:=eq_of_beq c_6
  revert a w hs
  refine go 9 [0] [5,4] (.c (.s (.s .z)) .n) ⟨rfl,?_⟩
  intro a w hs;exact zBM hs rfl rfl rfl .z (.z (.c (.c (.c (.c (.c (.c (.c (.c (.c .n)))))))))) isAgg48 sizeOf48 (.c .z (.c .z (.c .z .n))) (by first | (rw [zCJ (by omega)];exact ⟨rfl,rfl⟩) | (rw [zCd (by omega) (by omega)];exact ⟨rfl,rfl⟩) | (rw [zBW (by omega) (by omega) (by omega)];exact ⟨rfl,rfl⟩) | (rw [zBU (by omega) (by omega) (by omega)];exact ⟨rfl,rfl⟩))
 rw [c_6] at hs
 replace c_6:=zAW c_6
 revert a w hs
 refine go 5 [0] [14,4,3,2] (.c .z .n) ⟨rfl,?_⟩
 refine ifG rfl (λc_7=>?_) (λc_7=>?_)
 ·
  refine go 3 [0] [5,4] (.c (.s (.s .z)) .n) ⟨rfl,?_⟩
  intro a w hs;exact zBM hs rfl rfl rfl .z (.z (.c (.c (.c (.c (.c (.c (.c (.c (.c .n)))))))))) isAgg48 sizeOf48 (.c .z (.c .z (.c .z .n))) (by first | (rw [zCJ (by omega)];exact ⟨rfl,rfl⟩) | (rw [zCd (by omega) (by omega)];exact ⟨rfl,rfl⟩) | (rw [zBW (by omega) (by omega) (by omega)];exact ⟨rfl,rfl⟩) | (rw [zBU (by omega) (by omega) (by omega)];exact ⟨rfl,rfl⟩))
 refine go 4 [0] [31,4,3,2] (.c .z .n) ⟨rfl,?_⟩
 refine ifG rfl (λc_8=>?_) (λc_8=>?_)
 ·
  refine go 10 [0,1,1,1,0] [44,42,40,38,36,4] (.c (.s .z) (.c .z .n)) ⟨rfl,rfl,rfl,rfl,rfl,?_⟩
  intro a w hs;refine zRr (X:=ea.g) (Y:=1#8) hs rfl rfl rfl (by decide) rfl ?_
  refine goL 3 [0] [5,4] (.c (.s (.s .z)) .n) ⟨rfl,?_⟩
  intro a w hs;exact zBM hs rfl rfl rfl .z (.z (.c (.c (.c (.c (.c (.c (.c (.c (.c .n)))))))))) isAgg48 sizeOf48 (.c .z (.c .z (.c .z .n))) (by first | (rw [zCJ (by omega)];exact ⟨rfl,rfl⟩) | (rw [zCd (by omega) (by omega)];exact ⟨rfl,rfl⟩) | (rw [zBW (by omega) (by omega) (by omega)];exact ⟨rfl,rfl⟩) | (rw [zBU (by omega) (by omega) (by omega)];exact ⟨rfl,rfl⟩))
 refine go 1 [] [47,4,3,2] .n ?_
 intro a w hs;refine zCA 3 ?_
 revert a w hs
 refine go 4 [] [7,47,4,3,2] .n ?_
 intro a w hs
 refine zO [.p [] [],.p [] [],.p [1,0] [],.l [2] [0] [11] [],.p [] [],.p [] [],.p [5,4] [],.p [6] [0],.v [7,3] (zI (IntKind.i64.wrap (ea.p0+r.p0))),.p [] [],.p [9,0] [],.s [10,8] [0] [0] []] [] hs (.c (.s .z) .n) (.c .z .n) (by kernel_rfl) ⟨rfl,rfl,λ_ _ _ _ hm hs K=>zEZ hs rfl rfl rfl (vk K),rfl,⟨rfl,by kernel_rfl,λ_=>rfl,rfl,rfl,trivial⟩,λ_=>rfl,?_⟩
 refine goE 0 [] [7,47,4,3,2] .n ?_
 intro a w hs
 refine zO [.p [] [],.p [] [],.p [1,0] [],.l [2] [0] [11] [],.p [] [],.p [] [],.p [5,4] [],.p [6] [0],.v [7,3] (zI (IntKind.i64.wrap (ea.v0+r.v0))),.p [] [],.p [9,0] [],.s [10,8] [0] [0] []] [] hs (.c (.s (.s .z)) .n) (.c .z .n) (by kernel_rfl) ⟨rfl,rfl,λ_ _ _ _ hm hs K=>zEZ hs rfl rfl rfl (vk K),rfl,⟨rfl,by kernel_rfl,λ_=>rfl,rfl,rfl,trivial⟩,λ_=>rfl,?_⟩
 refine goE 2 [] [47,4,3,2] .n ⟨by decide,?_⟩
 intro a w hs;refine zAL ?_
 revert a w hs
 refine go 4 [] [7,47,4,3,2] .n ?_
 intro a w hs
 refine zO [.p [] [],.p [] [],.p [1,0] [],.l [2] [0] [11] [],.p [] [],.p [] [],.p [5,4] [],.p [6] [0],.v [7,3] (zI (IntKind.i64.wrap (ea.p1+r.p1))),.p [] [],.p [9,0] [],.s [10,8] [0] [0] []] [] hs (.c (.s (.s .z)) .n) (.c .z .n) (by kernel_rfl) ⟨rfl,rfl,λ_ _ _ _ hm hs K=>zEZ hs rfl rfl rfl (vk K),rfl,⟨rfl,by kernel_rfl,λ_=>rfl,rfl,rfl,trivial⟩,λ_=>rfl,?_⟩
 refine goE 0 [] [7,47,4,3,2] .n ?_
 intro a w hs
 refine zO [.p [] [],.p [] [],.p [1,0] [],.l [2] [0] [11] [],.p [] [],.p [] [],.p [5,4] [],.p [6] [0],.v [7,3] (zI (IntKind.i64.wrap (ea.v1+r.v1))),.p [] [],.p [9,0] [],.s [10,8] [0] [0] []] [] hs (.c (.s (.s .z)) .n) (.c .z .n) (by kernel_rfl) ⟨rfl,rfl,λ_ _ _ _ hm hs K=>zEZ hs rfl rfl rfl (vk K),rfl,⟨rfl,by kernel_rfl,λ_=>rfl,rfl,rfl,trivial⟩,λ_=>rfl,?_⟩
 refine goE 2 [] [47,4,3,2] .n ⟨by decide,?_⟩
 intro a w hs;refine zAL ?_
 revert a w hs
 refine go 4 [] [7,47,4,3,2] .n ?_
 intro a w hs
 refine zO [.p [] [],.p [] [],.p [1,0] [],.l [2] [0] [11] [],.p [] [],.p [] [],.p [5,4] [],.p [6] [0],.v [7,3] (zI (IntKind.i64.wrap (ea.p2+r.p2))),.p [] [],.p [9,0] [],.s [10,8] [0] [0] []] [] hs (.c (.s (.s .z)) .n) (.c .z .n) (by kernel_rfl) ⟨rfl,rfl,λ_ _ _ _ hm hs K=>zEZ hs rfl rfl rfl (vk K),rfl,⟨rfl,by kernel_rfl,λ_=>rfl,rfl,rfl,trivial⟩,λ_=>rfl,?_⟩
 refine goE 0 [] [7,47,4,3,2] .n ?_
 intro a w hs
 refine zO [.p [] [],.p [] [],.p [1,0] [],.l [2] [0] [11] [],.p [] [],.p [] [],.p [5,4] [],.p [6] [0],.v [7,3] (zI (IntKind.i64.wrap (ea.v2+r.v2))),.p [] [],.p [9,0] [],.s [10,8] [0] [0] []] [] hs (.c (.s (.s .z)) .n) (.c .z .n) (by kernel_rfl) ⟨rfl,rfl,λ_ _ _ _ hm hs K=>zEZ hs rfl rfl rfl (vk K),rfl,⟨rfl,by kernel_rfl,λ_=>rfl,rfl,rfl,trivial⟩,λ_=>rfl,?_⟩
 refine goE 2 [] [47,4,3,2] .n ⟨by decide,?_⟩
 intro a w hs;refine zAL ?_
 revert a w hs
 refine go 6 [0,1] [76,74,4,2] (.c (.s (.s .z)) (.c .z .n)) ⟨rfl,rfl,?_⟩
 intro a w hs;refine zI7 (X:=ea.a) (Y:=r.a) hs rfl rfl rfl rfl rfl ?_
 refine goL 5 [0,0,1] [5,4] (.c .z (.c (.s .z) .n)) ⟨rfl,rfl,rfl,?_⟩
 intro a w hs;exact zBM hs rfl rfl rfl (.s .z) (.z (.c (.c (.c (.c (.c (.c (.c (.c (.c .n)))))))))) isAgg48 sizeOf48 (.c .z (.c .z (.c .z .n))) (by first | (rw [zCJ (by omega)];exact ⟨rfl,rfl⟩) | (rw [zCd (by omega) (by omega)];exact ⟨rfl,rfl⟩) | (rw [zBW (by omega) (by omega) (by omega)];exact ⟨rfl,rfl⟩) | (rw [zBU (by omega) (by omega) (by omega)];exact ⟨rfl,rfl⟩))
end Go.Proofs.YtljpfgacpofkpaaGreat
