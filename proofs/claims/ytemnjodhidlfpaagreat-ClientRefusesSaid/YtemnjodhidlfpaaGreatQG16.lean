import Derived.Test.YtemnjodhidlfpaaGreatQG14
import Derived.Test.YtemnjodhidlfpaaGreatQG15
import Derived.Test.YtemnjodhidlfpaaGreatQSxGrams
import Derived.Test.YtemnjodhidlfpaaGreatQSxRecs
import Derived.Test.YtemnjodhidlfpaaGreatQSxBasB
/- Walks of datagrams: what each function does, over the program of this seat. Printed by a program of this session. -/
namespace Go.Proofs.YtemnjodhidlfpaaGreat
open Tryz
open Go Go.Sx Go.RowKit
set_option linter.unusedVariables false
set_option linter.unusedSimpArgs false
set_option maxRecDepth 4000
set_option maxHeartbeats 1000000

theorem zTi (t tm b:Int) (u:Value) (l:List zAB) (w0:World) (ht_ : -9223372036854775808 ≤ t ∧ t ≤ 9223372036854775807) (htm_ : -9223372036854775808 ≤ tm ∧ tm ≤ 9223372036854775807) (hb_ : -9223372036854775808 ≤ b ∧ b ≤ 9223372036854775807) (hc:Rd w0 [] u 9 l.length (l.flatMap zJ3)):Calls Tryz.prog 139 #[.agg #[.int .i64 t,.int .i64 tm,.int .i64 b,u]] w0 (Ret w0 [] fun x N=>∃ v,x = .tuple #[v,nI (zE8 t tm b l.length)] ∧ N = [row v 5 1 (zBh t tm b l.length).length (zD (zBh t tm b l.length))]):=by
 have hce:=hc.le
 simp only [maxLen] at hce
 have hv1:=zC1 (BitVec.ofInt 64 t).toNat
 have hv2:=zC1 (zGc tm).toNat
 have hv3:=zC1 (BitVec.ofInt 64 (t - b)).toNat
 have hv4:=zC1 (BitVec.ofInt 64 (l.length:Int)).toNat
 have hv5:=zC1 (0#64).toNat
 refine zF (F0:=[(0,.agg #[zI t,zI tm,zI b,u])]) func139 rfl rfl rfl (.c .n) (Mem.nil _) ?_
 refine go 7 [0,0] [12,1] .n (fun g1=>⟨rfl,?_⟩)
 intro a w hs;refine zT (b:=decide (t < 0)) (fun c_2=>?_) (fun c_2=>?_)
 ·
  rw [c_2] at hs
  replace c_2:=of_decide_eq_true c_2
  revert a w hs
  refine go 19 [] [3,2] .n ?_
  have hge:zE8 t tm b l.length = 3:=by first | exact zDe (by omega) | exact zCO (by omega) (by omega) | exact zDj (by omega) (by omega) (by omega) | exact zHB (by omega) (by omega) (by omega)
  refine cl (·.drop (.c .z .n)) ?_
  refine cl (·.addNil 5 1) ?_
  intro a w hs;replace hs:=hs.rerow .z (m':=(zBh t tm b l.length).length) (xs':=zD (zBh t tm b l.length)) (by rw [zBh,if_pos (by omega)];rfl) (by rw [zBh,if_pos (by omega)];rfl)
  exact zBO hs rfl rfl rfl ⟨_,congrArg (fun z:Nat=>Value.tuple #[.slice none 0 0,zI (z:Int)]) hge.symm,rfl⟩
 rw [c_2] at hs
 replace c_2:=of_decide_eq_false c_2
 revert a w hs
 refine go 5 [0] [17,1] (.c .z .n) ⟨rfl,?_⟩
 intro a w hs;refine zT (b:=decide (4294967295 < t)) (fun c_3=>?_) (fun c_3=>?_)
 ·
  rw [c_3] at hs
  replace c_3:=of_decide_eq_true c_3
  revert a w hs
  refine go 14 [] [3,2] .n ?_
  have hge:zE8 t tm b l.length = 3:=by first | exact zDe (by omega) | exact zCO (by omega) (by omega) | exact zDj (by omega) (by omega) (by omega) | exact zHB (by omega) (by omega) (by omega)
  refine cl (·.drop (.c .z .n)) ?_
  refine cl (·.addNil 5 1) ?_
  intro a w hs;replace hs:=hs.rerow .z (m':=(zBh t tm b l.length).length) (xs':=zD (zBh t tm b l.length)) (by rw [zBh,if_pos (by omega)];rfl) (by rw [zBh,if_pos (by omega)];rfl)
  exact zBO hs rfl rfl rfl ⟨_,congrArg (fun z:Nat=>Value.tuple #[.slice none 0 0,zI (z:Int)]) hge.symm,rfl⟩
 rw [c_3] at hs
 replace c_3:=of_decide_eq_false c_3
 revert a w hs
 refine go 2 [0] [19,17,1] (.c .z .n) ⟨rfl,?_⟩
 intro a w hs;refine zC hs rfl rfl rfl ?_
 refine zB (v:=.bool (decide (-2305843009213693952 ≤ tm ∧ tm ≤ 2305843009213693952))) hs (.c rfl .n) call87 (zLw tm _) rfl ?_
 refine goL 3 [] [23,1] .n ?_
 intro a w hs;refine zT (b:=!(decide (-2305843009213693952 ≤ tm ∧ tm ≤ 2305843009213693952))) (fun c_4=>?_) (fun c_4=>?_)
 ·
  rw [c_4] at hs
  replace c_4:=zFg c_4
  replace c_4:=of_decide_eq_false c_4
  revert a w hs
  refine go 8 [] [3,2] .n ?_
  have hge:zE8 t tm b l.length = 3:=by first | exact zDe (by omega) | exact zCO (by omega) (by omega) | exact zDj (by omega) (by omega) (by omega) | exact zHB (by omega) (by omega) (by omega)
  refine cl (·.drop (.c .z .n)) ?_
  refine cl (·.addNil 5 1) ?_
  intro a w hs;replace hs:=hs.rerow .z (m':=(zBh t tm b l.length).length) (xs':=zD (zBh t tm b l.length)) (by rw [zBh,if_pos (by omega)];rfl) (by rw [zBh,if_pos (by omega)];rfl)
  exact zBO hs rfl rfl rfl ⟨_,congrArg (fun z:Nat=>Value.tuple #[.slice none 0 0,zI (z:Int)]) hge.symm,rfl⟩
 rw [c_4] at hs
 replace c_4:=zFa c_4
 replace c_4:=of_decide_eq_true c_4
 revert a w hs
 refine go 5 [0] [8,1] (.c .z .n) ⟨rfl,?_⟩
 refine ifG rfl (fun c_5=>?_) (fun c_5=>?_)
 ·
  refine go 2 [] [3,2] .n ?_
  have hge:zE8 t tm b l.length = 3:=by first | exact zDe (by omega) | exact zCO (by omega) (by omega) | exact zDj (by omega) (by omega) (by omega) | exact zHB (by omega) (by omega) (by omega)
  refine cl (·.drop (.c .z .n)) ?_
  refine cl (·.addNil 5 1) ?_
  intro a w hs;replace hs:=hs.rerow .z (m':=(zBh t tm b l.length).length) (xs':=zD (zBh t tm b l.length)) (by rw [zBh,if_pos (by omega)];rfl) (by rw [zBh,if_pos (by omega)];rfl)
  exact zBO hs rfl rfl rfl ⟨_,congrArg (fun z:Nat=>Value.tuple #[.slice none 0 0,zI (z:Int)]) hge.symm,rfl⟩
 refine go 6 [0,0] [28,1] (.c .z .n) ⟨rfl,rfl,?_⟩
 refine ifG rfl (fun c_6=>?_) (fun c_6=>?_)
 ·
  refine go 2 [] [3,2] .n ?_
  have hge:zE8 t tm b l.length = 10:=by first | exact zDe (by omega) | exact zCO (by omega) (by omega) | exact zDj (by omega) (by omega) (by omega) | exact zHB (by omega) (by omega) (by omega)
  refine cl (·.drop (.c .z .n)) ?_
  refine cl (·.addNil 5 1) ?_
  intro a w hs;replace hs:=hs.rerow .z (m':=(zBh t tm b l.length).length) (xs':=zD (zBh t tm b l.length)) (by rw [zBh,if_pos (by omega)];rfl) (by rw [zBh,if_pos (by omega)];rfl)
  exact zBO hs rfl rfl rfl ⟨_,congrArg (fun z:Nat=>Value.tuple #[.slice none 0 0,zI (z:Int)]) hge.symm,rfl⟩
 refine go 2 [0] [36,1] (.c .z .n) ⟨rfl,?_⟩
 intro a w hs;refine zW hs rfl (hs.rd0 hc).isSl underlying58 rfl ?_
 refine goL 2 [] [34,1] .n ?_
 refine ifG rfl (fun c_7=>?_) (fun c_7=>?_)
 ·
  refine go 2 [] [3,2] .n ?_
  have hge:zE8 t tm b l.length = 8:=by first | exact zDe (by omega) | exact zCO (by omega) (by omega) | exact zDj (by omega) (by omega) (by omega) | exact zHB (by omega) (by omega) (by omega)
  refine cl (·.drop (.c .z .n)) ?_
  refine cl (·.addNil 5 1) ?_
  intro a w hs;replace hs:=hs.rerow .z (m':=(zBh t tm b l.length).length) (xs':=zD (zBh t tm b l.length)) (by rw [zBh,if_pos (by omega)];rfl) (by rw [zBh,if_pos (by omega)];rfl)
  exact zBO hs rfl rfl rfl ⟨_,congrArg (fun z:Nat=>Value.tuple #[.slice none 0 0,zI (z:Int)]) hge.symm,rfl⟩
 refine go 4 [0] [41,4,1] (.c .z .n) ⟨rfl,?_⟩
 refine ifG rfl (fun c_8=>?_) (fun c_8=>?_)
 ·
  refine go 5 [0,0] [46,1] (.c .z .n) ⟨rfl,rfl,(by omega),?_⟩
  intro a w hs;refine zAZ hs rfl underlying2 underlying167 rfl ?_
  refine goL 3 [] [5,4,1] .n (fun g9=>?_)
  intro a w hs
  refine zAS [.p [] [],.p [0] [0],.v [1] (qI (BitVec.ofInt 64 t)),.p [] [],.p [3] [0],.v [4] (qI (zGc tm)),.p [] [],.p [] [],.p [7] [0],.v [8] (nI l.length),.v [9] (qI (BitVec.ofInt 64 ((l.length:Nat):Int))),.x [10,6,5,2] ⟨[],[],[],fun vs10=>vs10 11 = .slice (some ⟨(zC0 (vs10 11)),0,none⟩) 4 4,fun vs10=>[blk (zC0 (vs10 11)) [qI (BitVec.ofInt 64 t),qI (zGc tm),qI (BitVec.ofInt 64 (t - b)),qI (BitVec.ofInt 64 ((l.length:Nat):Int))] 167],none⟩,.y [] (zI 4) [] [] [] fun vs10=>[],.p [] []] [12,13] hs .n .n (.c (.s .z) .n) (by kernel_rfl) ⟨rfl,fun _ _ _ _ hm hs K=>zAZ hs rfl underlying2 underlying167 rfl (vk K),rfl,fun _ _ _ _ hm hs K=>zB (v:=qI (zGc tm)) hs (.c rfl .n) call173 (zPu tm _ (by omega)) rfl (vk K),rfl,fun _ _ _ _ hm hs K=>zW hs rfl (hm.rd0 hc).isSl underlying58 rfl (vk K),fun _ _ _ _ hm hs K=>zAZ hs rfl underlying3 underlying167 rfl (vk K),⟨.n,by kernel_rfl,fun _=>rfl,rfl,rfl⟩,⟨?_,?_,trivial⟩,?_⟩
  ·
   intro a_ w_ R_ rest_ vs10 hm hs ht hx
   have hs0:=hs.bare
   refine zHw (cs:=[qI (BitVec.ofInt 64 t),qI (zGc tm),qI (BitVec.ofInt 64 (t - b)),qI (BitVec.ofInt 64 ((l.length:Nat):Int))]) hs (.c (.c (.c (.c .n)))) (.c rfl (.c rfl (.c rfl (.c rfl .n)))) underlying268 (ie:=Tryz.t167) rfl rfl rfl rfl (by decide) (by decide) rfl (by decide) rfl rfl rfl ?_;clear hs;intro g11 a w hs
   exact wpList_nil ⟨rfl,_,_,hs0,(.c (.c (.c (.c .r)))),hs,rfl⟩
  ·
   intro a_ w_ R_ rest_ vs10 hm hs ht hx
   have t11:=ht 11 (zL 14 _ (by kernel_rfl))
   have e11:_ = some (vs10 11):=t11.val rfl
   rw [show vs10 11 = .slice (some ⟨(zC0 (vs10 11)),0,none⟩) 4 4 from t11.2.1] at e11
   replace hs:=hs.learn e11
   have hs0:=hs.bare
   refine zW hs rfl (zAK (m:=4) (size:=1) (hm.own (List.mem_append.2 (.inr ((ht 11 (zL 14 _ (by kernel_rfl))).2.2 (zHv (n:=14) (by kernel_rfl)) _ (List.Mem.head _))))) rfl (by decide)).isSl underlying268 rfl ?_;clear hs;intro a w hs
   replace hs:=hs.recell (v':=zI 4) (Option.some.inj rfl)
   exact wpList_nil ⟨rfl,_,_,hs0,(.c .r),hs,rfl⟩
  clear hs w a;intro vs10 a w hs hf
  obtain ⟨e11,q11⟩:=hf 11 (by decide)
  replace e11:_ = some (vs10 11):=e11.val rfl
  rw [show vs10 11 = .slice (some ⟨(zC0 (vs10 11)),0,none⟩) 4 4 from q11] at e11
  replace hs:=hs.learn e11;clear e11 q11
  generalize zC0 (vs10 11) = g12 at hs
  clear hf
  revert a w hs
  refine goE 0 [] [60,62,61,5] .n ?_
  intro a w hs;refine zC2 4 ?_
  revert a w hs
  refine go 2 [] [60,62,61,5] .n ?_
  intro a w hs;refine zA4 (j:=0) hs rfl rfl (zAK (m:=4) (size:=1) (hs.mem.del (.s (.s .z))) rfl (by decide)) (by decide) (by omega) underlying268 sizeOf167 rfl ?_
  intro a w hs;refine zBn (u:=qI (BitVec.ofInt 64 t)) hs rfl (zAK (m:=4) (size:=1) (hs.mem.del (.s (.s .z))) rfl (by decide)) (by rfl) isAgg167 rfl ?_
  refine goL 3 [] [67,66,60,62,61] .n ?_
  intro a w hs;refine zG hs (.c rfl .n) call174 .n (zEQ (BitVec.ofInt 64 t) _) rfl ?_;clear hs w a;rintro v13 _ a w rfl hs
  replace hs:=hs.toRow (size:=1) (m:=2) (.s .z) rfl (by decide)
  refine zBS (size:=1) (bytes:=1) hs rfl rfl .z (zK (hs.mem.del (.s .z))) (zAI _) underlying31 (i:=Tryz.t5) rfl rfl rfl rfl rfl (by decide) (by omega) (by simp only [maxLen];omega) rfl ?_;intro v14
  refine goL 3 [] [62,5,60,61] .n ⟨by decide,?_⟩
  intro a w hs;refine zAb ?_
  revert a w hs
  refine go 2 [] [62,5,60,61] .n ?_
  intro a w hs;refine zA4 (j:=1) hs rfl rfl (zAK (m:=4) (size:=1) (hs.mem.del (.s (.s (.s .z)))) rfl (by decide)) (by decide) (by omega) underlying268 sizeOf167 rfl ?_
  intro a w hs;refine zBn (u:=qI (zGc tm)) hs rfl (zAK (m:=4) (size:=1) (hs.mem.del (.s (.s (.s .z)))) rfl (by decide)) (by rfl) isAgg167 rfl ?_
  refine goL 3 [] [67,66,62,60,61] .n ?_
  intro a w hs;refine zG hs (.c rfl .n) call174 .n (zEQ (zGc tm) _) rfl ?_;clear hs w a;rintro v15 _ a w rfl hs
  refine zBS (size:=1) (bytes:=1) hs rfl rfl (.s .z) (zK (hs.mem.del .z)) (zAI _) underlying31 (i:=Tryz.t5) rfl rfl rfl rfl rfl (by decide) (by omega) (by simp only [maxLen];omega) rfl ?_;intro v16
  refine goL 3 [] [62,5,60,61] .n ⟨by decide,?_⟩
  intro a w hs;refine zAb ?_
  revert a w hs
  refine go 2 [] [62,5,60,61] .n ?_
  intro a w hs;refine zA4 (j:=2) hs rfl rfl (zAK (m:=4) (size:=1) (hs.mem.del (.s (.s (.s (.s .z))))) rfl (by decide)) (by decide) (by omega) underlying268 sizeOf167 rfl ?_
  intro a w hs;refine zBn (u:=qI (BitVec.ofInt 64 (t - b))) hs rfl (zAK (m:=4) (size:=1) (hs.mem.del (.s (.s (.s (.s .z))))) rfl (by decide)) (by rfl) isAgg167 rfl ?_
  refine goL 3 [] [67,66,62,60,61] .n ?_
  intro a w hs;refine zG hs (.c rfl .n) call174 .n (zEQ (BitVec.ofInt 64 (t - b)) _) rfl ?_;clear hs w a;rintro v17 _ a w rfl hs
  refine zBS (size:=1) (bytes:=1) hs rfl rfl (.s .z) (zK (hs.mem.del .z)) (zAI _) underlying31 (i:=Tryz.t5) rfl rfl rfl rfl rfl (by decide) (by omega) (by simp only [maxLen];omega) rfl ?_;intro v18
  refine goL 3 [] [62,5,60,61] .n ⟨by decide,?_⟩
  intro a w hs;refine zAb ?_
  revert a w hs
  refine go 2 [] [62,5,60,61] .n ?_
  intro a w hs;refine zA4 (j:=3) hs rfl rfl (zAK (m:=4) (size:=1) (hs.mem.del (.s (.s (.s (.s (.s .z)))))) rfl (by decide)) (by decide) (by omega) underlying268 sizeOf167 rfl ?_
  intro a w hs;refine zBn (u:=qI (BitVec.ofInt 64 ((l.length:Nat):Int))) hs rfl (zAK (m:=4) (size:=1) (hs.mem.del (.s (.s (.s (.s (.s .z)))))) rfl (by decide)) (by rfl) isAgg167 rfl ?_
  refine goL 3 [] [67,66,62,60,61] .n ?_
  intro a w hs;refine zG hs (.c rfl .n) call174 .n (zEQ (BitVec.ofInt 64 ((l.length:Nat):Int)) _) rfl ?_;clear hs w a;rintro v19 _ a w rfl hs
  refine zBS (size:=1) (bytes:=1) hs rfl rfl (.s .z) (zK (hs.mem.del .z)) (zAI _) underlying31 (i:=Tryz.t5) rfl rfl rfl rfl rfl (by decide) (by omega) (by simp only [maxLen];omega) rfl ?_;intro v20
  refine goL 3 [] [62,5,60,61] .n ⟨by decide,?_⟩
  intro a w hs;refine zAb ?_
  revert a w hs
  refine go 5 [] [3,2] .n ?_
  have hge:zE8 t tm b l.length = 0:=by first | exact zDe (by omega) | exact zCO (by omega) (by omega) | exact zDj (by omega) (by omega) (by omega) | exact zHB (by omega) (by omega) (by omega)
  refine cl (·.drop (.c (.s (.s (.s (.s (.s (.s .z)))))) (.c (.s (.s (.s (.s (.s .z))))) (.c (.s (.s (.s (.s .z)))) (.c (.s (.s (.s .z))) (.c (.s (.s .z)) (.c (.s .z) .n))))))) ?_
  intro a w hs;replace hs:=hs.rerow .z (m':=(zBh t tm b l.length).length) (xs':=zD (zBh t tm b l.length)) (by rw [zBh,if_neg (by omega),zBE,zHT];(first | rw [if_pos (by omega)] | rw [if_neg (by omega)]);simp only [List.length_append,List.length_cons,List.length_nil,zBY]) (by rw [zBh,if_neg (by omega),zBE,zHT];(first | rw [if_pos (by omega)] | rw [if_neg (by omega)]);simp [zD,zLV])
  exact zBO hs rfl rfl rfl ⟨_,congrArg (fun z:Nat=>Value.tuple #[v20,zI (z:Int)]) hge.symm,rfl⟩
 refine go 2 [] [5,4,1] .n (fun g21=>?_)
 intro a w hs
 refine zAS [.p [] [],.p [0] [0],.v [1] (qI (BitVec.ofInt 64 t)),.p [] [],.p [3] [0],.v [4] (qI (zGc tm)),.p [] [],.p [] [],.p [7] [0],.v [8] (nI l.length),.v [9] (qI (BitVec.ofInt 64 ((l.length:Nat):Int))),.x [10,6,5,2] ⟨[],[],[],fun vs22=>vs22 11 = .slice (some ⟨(zC0 (vs22 11)),0,none⟩) 4 4,fun vs22=>[blk (zC0 (vs22 11)) [qI (BitVec.ofInt 64 t),qI (zGc tm),.int .u64 (0),qI (BitVec.ofInt 64 ((l.length:Nat):Int))] 167],none⟩,.y [] (zI 4) [] [] [] fun vs22=>[],.p [] []] [12,13] hs .n .n (.c (.s .z) .n) (by kernel_rfl) ⟨rfl,fun _ _ _ _ hm hs K=>zAZ hs rfl underlying2 underlying167 rfl (vk K),rfl,fun _ _ _ _ hm hs K=>zB (v:=qI (zGc tm)) hs (.c rfl .n) call173 (zPu tm _ (by omega)) rfl (vk K),rfl,fun _ _ _ _ hm hs K=>zW hs rfl (hm.rd0 hc).isSl underlying58 rfl (vk K),fun _ _ _ _ hm hs K=>zAZ hs rfl underlying3 underlying167 rfl (vk K),⟨.n,by kernel_rfl,fun _=>rfl,rfl,rfl⟩,⟨?_,?_,trivial⟩,?_⟩
 ·
  intro a_ w_ R_ rest_ vs22 hm hs ht hx
  have hs0:=hs.bare
  refine zHw (cs:=[qI (BitVec.ofInt 64 t),qI (zGc tm),.int .u64 (0),qI (BitVec.ofInt 64 ((l.length:Nat):Int))]) hs (.c (.c (.c (.c .n)))) (.c rfl (.c rfl (.c rfl (.c rfl .n)))) underlying268 (ie:=Tryz.t167) rfl rfl rfl rfl (by decide) (by decide) rfl (by decide) rfl rfl rfl ?_;clear hs;intro g23 a w hs
  exact wpList_nil ⟨rfl,_,_,hs0,(.c (.c (.c (.c .r)))),hs,rfl⟩
 ·
  intro a_ w_ R_ rest_ vs22 hm hs ht hx
  have t11:=ht 11 (zL 14 _ (by kernel_rfl))
  have e11:_ = some (vs22 11):=t11.val rfl
  rw [show vs22 11 = .slice (some ⟨(zC0 (vs22 11)),0,none⟩) 4 4 from t11.2.1] at e11
  replace hs:=hs.learn e11
  have hs0:=hs.bare
  refine zW hs rfl (zAK (m:=4) (size:=1) (hm.own (List.mem_append.2 (.inr ((ht 11 (zL 14 _ (by kernel_rfl))).2.2 (zHv (n:=14) (by kernel_rfl)) _ (List.Mem.head _))))) rfl (by decide)).isSl underlying268 rfl ?_;clear hs;intro a w hs
  replace hs:=hs.recell (v':=zI 4) (Option.some.inj rfl)
  exact wpList_nil ⟨rfl,_,_,hs0,(.c .r),hs,rfl⟩
 clear hs w a;intro vs22 a w hs hf
 obtain ⟨e11,q11⟩:=hf 11 (by decide)
 replace e11:_ = some (vs22 11):=e11.val rfl
 rw [show vs22 11 = .slice (some ⟨(zC0 (vs22 11)),0,none⟩) 4 4 from q11] at e11
 replace hs:=hs.learn e11;clear e11 q11
 generalize zC0 (vs22 11) = g24 at hs
 clear hf
 revert a w hs
 refine goE 0 [] [60,62,61,5] .n ?_
 intro a w hs;refine zC2 4 ?_
 revert a w hs
 refine go 2 [] [60,62,61,5] .n ?_
 intro a w hs;refine zA4 (j:=0) hs rfl rfl (zAK (m:=4) (size:=1) (hs.mem.del (.s (.s .z))) rfl (by decide)) (by decide) (by omega) underlying268 sizeOf167 rfl ?_
 intro a w hs;refine zBn (u:=qI (BitVec.ofInt 64 t)) hs rfl (zAK (m:=4) (size:=1) (hs.mem.del (.s (.s .z))) rfl (by decide)) (by rfl) isAgg167 rfl ?_
 refine goL 3 [] [67,66,60,62,61] .n ?_
 intro a w hs;refine zG hs (.c rfl .n) call174 .n (zEQ (BitVec.ofInt 64 t) _) rfl ?_;clear hs w a;rintro v25 _ a w rfl hs
 replace hs:=hs.toRow (size:=1) (m:=2) (.s .z) rfl (by decide)
 refine zBS (size:=1) (bytes:=1) hs rfl rfl .z (zK (hs.mem.del (.s .z))) (zAI _) underlying31 (i:=Tryz.t5) rfl rfl rfl rfl rfl (by decide) (by omega) (by simp only [maxLen];omega) rfl ?_;intro v26
 refine goL 3 [] [62,5,60,61] .n ⟨by decide,?_⟩
 intro a w hs;refine zAb ?_
 revert a w hs
 refine go 2 [] [62,5,60,61] .n ?_
 intro a w hs;refine zA4 (j:=1) hs rfl rfl (zAK (m:=4) (size:=1) (hs.mem.del (.s (.s (.s .z)))) rfl (by decide)) (by decide) (by omega) underlying268 sizeOf167 rfl ?_
 intro a w hs;refine zBn (u:=qI (zGc tm)) hs rfl (zAK (m:=4) (size:=1) (hs.mem.del (.s (.s (.s .z)))) rfl (by decide)) (by rfl) isAgg167 rfl ?_
 refine goL 3 [] [67,66,62,60,61] .n ?_
 intro a w hs;refine zG hs (.c rfl .n) call174 .n (zEQ (zGc tm) _) rfl ?_;clear hs w a;rintro v27 _ a w rfl hs
 refine zBS (size:=1) (bytes:=1) hs rfl rfl (.s .z) (zK (hs.mem.del .z)) (zAI _) underlying31 (i:=Tryz.t5) rfl rfl rfl rfl rfl (by decide) (by omega) (by simp only [maxLen];omega) rfl ?_;intro v28
 refine goL 3 [] [62,5,60,61] .n ⟨by decide,?_⟩
 intro a w hs;refine zAb ?_
 revert a w hs
 refine go 2 [] [62,5,60,61] .n ?_
 intro a w hs;refine zA4 (j:=2) hs rfl rfl (zAK (m:=4) (size:=1) (hs.mem.del (.s (.s (.s (.s .z))))) rfl (by decide)) (by decide) (by omega) underlying268 sizeOf167 rfl ?_
 intro a w hs;refine zBn (u:=.int .u64 (0)) hs rfl (zAK (m:=4) (size:=1) (hs.mem.del (.s (.s (.s (.s .z))))) rfl (by decide)) (by rfl) isAgg167 rfl ?_
 refine goL 3 [] [67,66,62,60,61] .n ?_
 intro a w hs;refine zG hs (.c rfl .n) call174 .n (zEQ (0#64) _) rfl ?_;clear hs w a;rintro v29 _ a w rfl hs
 refine zBS (size:=1) (bytes:=1) hs rfl rfl (.s .z) (zK (hs.mem.del .z)) (zAI _) underlying31 (i:=Tryz.t5) rfl rfl rfl rfl rfl (by decide) (by omega) (by simp only [maxLen];omega) rfl ?_;intro v30
 refine goL 3 [] [62,5,60,61] .n ⟨by decide,?_⟩
 intro a w hs;refine zAb ?_
 revert a w hs
 refine go 2 [] [62,5,60,61] .n ?_
 intro a w hs;refine zA4 (j:=3) hs rfl rfl (zAK (m:=4) (size:=1) (hs.mem.del (.s (.s (.s (.s (.s .z)))))) rfl (by decide)) (by decide) (by omega) underlying268 sizeOf167 rfl ?_
 intro a w hs;refine zBn (u:=qI (BitVec.ofInt 64 ((l.length:Nat):Int))) hs rfl (zAK (m:=4) (size:=1) (hs.mem.del (.s (.s (.s (.s (.s .z)))))) rfl (by decide)) (by rfl) isAgg167 rfl ?_
 refine goL 3 [] [67,66,62,60,61] .n ?_
 intro a w hs;refine zG hs (.c rfl .n) call174 .n (zEQ (BitVec.ofInt 64 ((l.length:Nat):Int)) _) rfl ?_;clear hs w a;rintro v31 _ a w rfl hs
 refine zBS (size:=1) (bytes:=1) hs rfl rfl (.s .z) (zK (hs.mem.del .z)) (zAI _) underlying31 (i:=Tryz.t5) rfl rfl rfl rfl rfl (by decide) (by omega) (by simp only [maxLen];omega) rfl ?_;intro v32
 refine goL 3 [] [62,5,60,61] .n ⟨by decide,?_⟩
 intro a w hs;refine zAb ?_
 revert a w hs
 refine go 5 [] [3,2] .n ?_
 have hge:zE8 t tm b l.length = 0:=by first | exact zDe (by omega) | exact zCO (by omega) (by omega) | exact zDj (by omega) (by omega) (by omega) | exact zHB (by omega) (by omega) (by omega)
 refine cl (·.drop (.c (.s (.s (.s (.s (.s (.s .z)))))) (.c (.s (.s (.s (.s (.s .z))))) (.c (.s (.s (.s (.s .z)))) (.c (.s (.s (.s .z))) (.c (.s (.s .z)) (.c (.s .z) .n))))))) ?_
 intro a w hs;replace hs:=hs.rerow .z (m':=(zBh t tm b l.length).length) (xs':=zD (zBh t tm b l.length)) (by rw [zBh,if_neg (by omega),zBE,zHT];(first | rw [if_pos (by omega)] | rw [if_neg (by omega)]);simp only [List.length_append,List.length_cons,List.length_nil,zBY]) (by rw [zBh,if_neg (by omega),zBE,zHT];(first | rw [if_pos (by omega)] | rw [if_neg (by omega)]);simp [zD,zLV])
 exact zBO hs rfl rfl rfl ⟨_,congrArg (fun z:Nat=>Value.tuple #[v32,zI (z:Int)]) hge.symm,rfl⟩
theorem zNz (t tm b:Int) (u:Value) (l:List zAB) (w0:World) (ht_ : -9223372036854775808 ≤ t ∧ t ≤ 9223372036854775807) (htm_ : -9223372036854775808 ≤ tm ∧ tm ≤ 9223372036854775807) (hb_ : -9223372036854775808 ≤ b ∧ b ≤ 9223372036854775807) (hc:Rd w0 [] u 9 l.length (l.flatMap zJ3)) (hl:∀ x ∈ l,x.wf):Calls Tryz.prog 99 #[.agg #[.int .i64 t,.int .i64 tm,.int .i64 b,u]] w0 (Ret w0 [] fun x N=>∃ v,x = .tuple #[v,nI (zAT t tm b l)] ∧ N = [row v 5 1 (zDa t tm b l).length (zD (zDa t tm b l))]):=by
 have hce:=hc.le
 simp only [maxLen] at hce
 refine zF (F0:=[(0,.agg #[zI t,zI tm,zI b,u])]) func99 rfl rfl rfl (.c .n) (Mem.nil _) ?_
 refine go 4 [0,0] [12,1] .n (fun g1=>⟨rfl,?_⟩)
 intro a w hs;refine zG hs (.c rfl .n) call139 .n (zTi t tm b _ l _ (by omega) (by omega) (by omega) (hs.rd0 hc)) rfl ?_;clear hs w a;rintro _ _ a w ⟨v2,rfl,rfl⟩ hs
 have hk3:=zGW t tm b l.length
 revert a w hs
 refine goL 7 [] [17,5,4,1] .n ?_
 refine ifG rfl (fun c_4=>?_) (fun c_4=>?_)
 ·
  refine go 3 [] [3,2] .n ?_
  have hbe:zAT t tm b l = zE8 t tm b l.length:=by first | exact zCI (by omega) | exact (zCI (by rw [(show zE8 t tm b l.length = _ by first | exact zDe (by omega) | exact zCO (by omega) (by omega) | exact zDj (by omega) (by omega) (by omega))];decide)).trans (show zE8 t tm b l.length = _ by first | exact zDe (by omega) | exact zCO (by omega) (by omega) | exact zDj (by omega) (by omega) (by omega)) | (rw [zCB (by omega)];exact zG2 (by omega) hI1_1 (by unfold zFR;omega)) | (rw [zCB (by omega)];unfold zCd;rw [← show j = l.length by omega];exact hI1_1)
  refine cl (·.drop (.c (.s .z) (.c .z .n))) ?_
  refine cl (·.addNil 5 1) ?_
  intro a w hs;replace hs:=hs.rerow .z (m':=(zDa t tm b l).length) (xs':=zD (zDa t tm b l)) (by rw [zGX (by omega)];rfl) (by rw [zGX (by omega)];rfl)
  exact zBO hs rfl rfl rfl ⟨_,congrArg (fun z:Nat=>Value.tuple #[.slice none 0 0,zI (z:Int)]) hbe.symm,rfl⟩
 have hgp:=zFE (t:=t) (tm:=tm) (b:=b) (m:=l.length) (by omega)
 refine cl (·.rerow .z (m':=(zBE t tm b l.length).length) (xs':=zD (zBE t tm b l.length)) (by rw [zBh,if_neg (by omega)]) (by rw [zBh,if_neg (by omega)])) ?_
 refine go 3 [0] [20,6,4] (.c (.s .z) .n) ⟨rfl,?_⟩
 intro a w hs;refine zW hs rfl (hs.rd0 hc).isSl underlying58 rfl ?_
 refine goL 1 [] [22,21,20,6,4] .n ?_
 refine cl (·.drop (.c .z .n)) ?_
 intro a w hs;replace hs:=hs.rerow .z (m':=(zBE t tm b l.length).length + (zCg (l.take 0)).1.length) (xs':=zD (zBE t tm b l.length ++ (zCg (l.take 0)).1)) (by show _ = _ + 0;first | rfl | (simp only [zBY,zBE,List.length_append,List.length_cons,List.length_nil];omega)) (by show _ = zD (_ ++ []);rw [List.append_nil])
 refine zCr (fun mm_ a w=>∃ j:Nat,∃ p:Value,mm_ = l.length - j ∧ St 42 [(4,p),(6,zI ((zCg (l.take j)).2)),(20,u),(21,nI l.length),(22,zI (j:Int))] w0 [] [row p 5 1 ((zBE t tm b l.length).length + (zCg (l.take j)).1.length) (zD (zBE t tm b l.length ++ (zCg (l.take j)).1))] a w ∧ j ≤ l.length ∧ zCG l j = 0) ⟨0,v2,rfl,hs.sub (.c rfl (.c rfl (.c rfl (.c rfl (.c rfl .n))))),by omega,rfl⟩ ?_
 clear hs w a;rintro mm_ a w ⟨j,p,rfl,hs,hI1_0,hI1_1⟩
 have hll:=zMQ hI1_0 hI1_1
 have hrl:=zNh (l.take j)
 have htl:(l.take j).length ≤ j:=by rw [List.length_take];omega
 revert a w hs
 refine go 1 [] [23,4,6,20,21,22] .n ?_
 refine ifG rfl (fun c_5=>?_) (fun c_5=>?_)
 ·
  refine go 0 [] [4,6,20,21,22] .n ?_
  intro a w hs;refine zBt (j:=j) hs rfl rfl (hs.rd0 hc) rfl (by omega) underlying58 sizeOf131 rfl ?_
  intro a w hs;refine zBQ (cs:=zJ3 (l.getD j default)) hs rfl (hs.rd0 hc) (zAh zHg l j (by omega)) (by rw [zAX zHg];omega) (by omega) isAgg131 sizeOf131 rfl ?_
  refine goL 4 [0,0] [28,27,8,4,20,21,22] .n (fun g6=>⟨rfl,rfl,?_⟩)
  intro a w hs;refine zG hs (.c rfl (.c rfl .n)) call140 .n (zTB (l.getD j default) ((zCg (l.take j)).2) _ (zLl hl (by omega)) (by omega)) rfl ?_;clear hs w a;rintro _ _ a w ⟨v7,rfl,rfl⟩ hs
  have hk8:=zIF (l.getD j default) ((zCg (l.take j)).2)
  revert a w hs
  refine goL 7 [] [33,10,9,8,4,20,21,22] .n ?_
  refine ifG rfl (fun c_9=>?_) (fun c_9=>?_)
  ·
   refine go 3 [] [3,2] .n ?_
   have hbe:zAT t tm b l = zAy (l.getD j default) ((zCg (l.take j)).2):=by first | exact zCI (by omega) | exact (zCI (by rw [(show zE8 t tm b l.length = _ by first | exact zDe (by omega) | exact zCO (by omega) (by omega) | exact zDj (by omega) (by omega) (by omega))];decide)).trans (show zE8 t tm b l.length = _ by first | exact zDe (by omega) | exact zCO (by omega) (by omega) | exact zDj (by omega) (by omega) (by omega)) | (rw [zCB (by omega)];exact zG2 (by omega) hI1_1 (by unfold zFR;omega)) | (rw [zCB (by omega)];unfold zCd;rw [← show j = l.length by omega];exact hI1_1)
   refine cl (·.drop (.c (.s (.s .z)) (.c (.s .z) (.c .z .n)))) ?_
   refine cl (·.addNil 5 1) ?_
   intro a w hs;replace hs:=hs.rerow .z (m':=(zDa t tm b l).length) (xs':=zD (zDa t tm b l)) (by rw [zGX (by omega)];rfl) (by rw [zGX (by omega)];rfl)
   exact zBO hs rfl rfl rfl ⟨_,congrArg (fun z:Nat=>Value.tuple #[.slice none 0 0,zI (z:Int)]) hbe.symm,rfl⟩
  refine go 0 [] [9,8,4,20,21,22] .n ?_
  refine cl (·.sub (F':=[(9,v7),(8,pt g6 0),(4,p),(20,u),(21,nI l.length),(22,zI (j:Int))]) (.c rfl (.c rfl (.c rfl (.c rfl (.c rfl (.c rfl .n))))))) ?_
  intro a w hs
  have hs1:=hs
  replace hs:=hs.sub (F':=[(9,v7),(8,pt g6 0),(20,u),(21,nI l.length),(22,zI (j:Int))]) (.c rfl (.c rfl (.c rfl (.c rfl (.c rfl .n)))))
  refine zSR (M0:=[row v7 5 1 ((zCk (l.getD j default) ((zCg (l.take j)).2)).length) (zD (zCk (l.getD j default) ((zCg (l.take j)).2))),blk g6 [zI ((l.getD j default).k),zI ((l.getD j default).id),zI ((l.getD j default).p0),zI ((l.getD j default).p1),zI ((l.getD j default).p2),zI ((l.getD j default).v0),zI ((l.getD j default).v1),zI ((l.getD j default).v2),.int .u16 ((((l.getD j default).a).toNat:Nat):Int)] 131]) (Ds:=[Pv 0 p,Pv 1 v7,⟨[row p 5 1 ((zBE t tm b l.length).length + (zCg (l.take j)).1.length) (zD (zBE t tm b l.length ++ (zCg (l.take j)).1))],[],[],fun vs10=>True,fun vs10=>[row (vs10 2) 5 1 (((zBE t tm b l.length).length + (zCg (l.take j)).1.length) + ((zCk (l.getD j default) ((zCg (l.take j)).2)).length)) ((zD (zBE t tm b l.length ++ (zCg (l.take j)).1)) ++ (zD (zCk (l.getD j default) ((zCg (l.take j)).2))))],none⟩,Pv 3 (pt g6 1),Pv 4 (zI ((l.getD j default).id)),⟨[],[],[2],fun vs10=>vs10 5 = (vs10 2),fun vs10=>[],some (p)⟩,Pv 6 (zI ((l.getD j default).id))]) (by kernel_rfl) hs rfl (.c (.s (.s .z)) .n) (by kernel_rfl) (by kernel_rfl) ?_ (zVT.get (.z rfl (.z rfl (.z rfl (.z rfl (.z rfl (.s rfl rfl rfl (.z rfl .n))))))) hs1) ?_
  all_goals clear hs1
  ·
   refine (.c ?_ (.c ?_ (.c ?_ (.c ?_ (.c ?_ (.c ?_ (.c ?_ .n)))))))
   · exact zAo (m:=7) (.o (j:=5) (by kernel_rfl) rfl rfl .n) (fun hm0 hm hx=>.n) (by kernel_rfl) (by kernel_rfl) rfl
   · exact zAo (m:=7) .n (fun hm0 hm hx=>.n) (by kernel_rfl) (by kernel_rfl) rfl
   ·
    intro a_ w_ R_ rest_ vs10 hm hs ht hx
    replace hs:St _ _ _ (zN [row p 5 1 ((zBE t tm b l.length).length + (zCg (l.take j)).1.length) (zD (zBE t tm b l.length ++ (zCg (l.take j)).1))]) [row p 5 1 ((zBE t tm b l.length).length + (zCg (l.take j)).1.length) (zD (zBE t tm b l.length ++ (zCg (l.take j)).1))] _ _:=hs
    have hm0:=hm.mid
    replace hs:=hs.lrn (ht 0 (zL 7 _ (by kernel_rfl))) rfl rfl
    replace hs:=hs.lrn (ht 1 (zL 7 _ (by kernel_rfl))) rfl rfl
    have hs0:=hs.bare
    refine zBS (size:=1) (bytes:=1) hs rfl rfl .z (zK (hm0.del .z)) (zAI _) underlying31 (i:=Tryz.t5) rfl rfl rfl rfl rfl (by decide) (by omega) (by simp only [maxLen];omega) rfl ?_;clear hs;intro v11 a w hs
    exact wpList_nil ⟨rfl,_,_,hs0,(.c (.c .r)),hs,trivial⟩
   · exact zAo (m:=7) .n (fun hm0 hm hx=>.n) (by kernel_rfl) (by kernel_rfl) rfl
   · exact zAo (m:=7) (.c (k:=3) (by kernel_rfl) rfl rfl .n) (fun hm0 hm hx=>(.c (hm0.del (.s .z)))) (by kernel_rfl) (by kernel_rfl) rfl
   ·
    intro a_ w_ R_ rest_ vs10 hm hs ht hx
    have hm0:=hm.mid
    have t2:=ht 2 (zL 7 _ (by kernel_rfl))
    have e2:_ = some (vs10 2):=t2.val rfl
    replace hs:=hs.learn e2
    have hs0:=hs.bare
    refine zEX hs rfl rfl ?_;clear hs;intro a w hs
    exact wpList_nil ⟨rfl,_,_,hs0,(.c .r),hs,rfl⟩
   exact zAo (m:=7) (.c (k:=4) (by kernel_rfl) rfl rfl .n) (fun hm0 hm hx=>.n) (by kernel_rfl) (by kernel_rfl) rfl
  clear hs w a;intro a w vs10 hs hf
  replace hs:St _ _ _ _ [row v7 5 1 ((zCk (l.getD j default) ((zCg (l.take j)).2)).length) (zD (zCk (l.getD j default) ((zCg (l.take j)).2))),blk g6 [zI ((l.getD j default).k),zI ((l.getD j default).id),zI ((l.getD j default).p0),zI ((l.getD j default).p1),zI ((l.getD j default).p2),zI ((l.getD j default).v0),zI ((l.getD j default).v1),zI ((l.getD j default).v2),.int .u16 ((((l.getD j default).a).toNat:Nat):Int)] 131,row (vs10 2) 5 1 (((zBE t tm b l.length).length + (zCg (l.take j)).1.length) + ((zCk (l.getD j default) ((zCg (l.take j)).2)).length)) ((zD (zBE t tm b l.length ++ (zCg (l.take j)).1)) ++ (zD (zCk (l.getD j default) ((zCg (l.take j)).2))))] _ _:=hs
  obtain ⟨e5,q5⟩:=hf 5 (by decide)
  replace e5:_ = some (vs10 5):=e5.val rfl
  rw [show vs10 5 = (vs10 2) from q5] at e5
  replace hs:=hs.learn e5;clear e5 q5
  obtain ⟨e6,q6⟩:=hf 6 (by decide)
  replace e6:_ = some (vs10 6):=e6.val rfl
  rw [show vs10 6 = zI ((l.getD j default).id) from q6] at e6
  replace hs:=hs.learn e6;clear e6 q6
  generalize vs10 2 = v12 at hs
  clear hf
  revert a w hs
  refine goE 2 [] [22,6,4,20,21] .n ⟨(by omega),?_⟩
  have he0:zFR l j = 0:=by unfold zFR;omega
  intro a w hs;replace hs:=hs.rerow (.s (.s .z)) (m':=(zBE t tm b l.length).length + (zCg (l.take (j + 1))).1.length) (xs':=zD (zBE t tm b l.length ++ (zCg (l.take (j + 1))).1)) (by rw [zCw (by omega)];simp only [List.length_append];omega) (by rw [zCw (by omega)];simp [zD])
  replace hs:=hs.reslot (d:=6) (v:=zI ((l.getD j default).id)) (v':=zI ((zCg (l.take (j + 1))).2)) rfl (Option.some.inj (by rw [zCw (by omega)]))
  replace hs:=hs.drop (.c (.s (.s .z)) (.c (.s .z) .n))
  refine ⟨_,?_,j + 1,v12,rfl,hs.sub (.c rfl (.c rfl (.c rfl (.c rfl (.c rfl .n))))),by omega,zPf hI1_1 he0⟩
  omega
 refine go 3 [] [3,2] .n ?_
 have hbe:zAT t tm b l = 0:=by first | exact zCI (by omega) | exact (zCI (by rw [(show zE8 t tm b l.length = _ by first | exact zDe (by omega) | exact zCO (by omega) (by omega) | exact zDj (by omega) (by omega) (by omega))];decide)).trans (show zE8 t tm b l.length = _ by first | exact zDe (by omega) | exact zCO (by omega) (by omega) | exact zDj (by omega) (by omega) (by omega)) | (rw [zCB (by omega)];exact zG2 (by omega) hI1_1 (by unfold zFR;omega)) | (rw [zCB (by omega)];unfold zCd;rw [← show j = l.length by omega];exact hI1_1)
 have hta:l.take j = l:=List.take_of_length_le (by omega)
 intro a w hs;replace hs:=hs.rerow .z (m':=(zDa t tm b l).length) (xs':=zD (zDa t tm b l)) (by rw [zKT hbe,hta];simp only [List.length_append]) (by rw [zKT hbe,hta])
 exact zBO hs rfl rfl rfl ⟨_,congrArg (fun z:Nat=>Value.tuple #[p,zI (z:Int)]) hbe.symm,rfl⟩
theorem zRY (t tm b:Int) (u:Value) (l:List zAB) (w0:World) (ht_ : -9223372036854775808 ≤ t ∧ t ≤ 9223372036854775807) (htm_ : -9223372036854775808 ≤ tm ∧ tm ≤ 9223372036854775807) (hb_ : -9223372036854775808 ≤ b ∧ b ≤ 9223372036854775807) (hc:Rd w0 [] u 9 l.length (l.flatMap zJ3)) (hl:∀ x ∈ l,x.wf):Calls Tryz.prog 60 #[.agg #[.int .i64 t,.int .i64 tm,.int .i64 b,u]] w0 (Ret w0 [] fun x N=>∃ v,x = .tuple #[v,nI (zFp t tm b l)] ∧ N = [row v 5 1 (gwB t tm b l).length (zD (gwB t tm b l))]):=by
 have hce:=hc.le
 simp only [maxLen] at hce
 refine zF (F0:=[(0,.agg #[zI t,zI tm,zI b,u])]) func60 rfl rfl rfl (.c .n) (Mem.nil _) ?_
 refine go 4 [0,0] [7] .n (fun g1=>⟨rfl,?_⟩)
 intro a w hs;refine zG hs (.c rfl .n) call99 .n (zNz t tm b _ l _ (by omega) (by omega) (by omega) (hs.rd0 hc) hl) rfl ?_;clear hs w a;rintro _ _ a w ⟨v2,rfl,rfl⟩ hs
 have hk3:=zHJ t tm b l
 revert a w hs
 refine goL 8 [] [11,5,4] .n ?_
 refine ifG rfl (fun c_4=>?_) (fun c_4=>?_)
 ·
  refine go 3 [] [3,2] .n ?_
  have hwe:zFp t tm b l = zAT t tm b l:=by unfold zFp;(repeat' split) <;> omega
  refine cl (·.drop (.c (.s .z) (.c .z .n))) ?_
  refine cl (·.addNil 5 1) ?_
  intro a w hs;replace hs:=hs.rerow .z (m':=(gwB t tm b l).length) (xs':=zD (gwB t tm b l)) (by rw [gwB,if_pos (by omega)];rfl) (by rw [gwB,if_pos (by omega)];rfl)
  exact zBO hs rfl rfl rfl ⟨_,congrArg (fun z:Nat=>Value.tuple #[.slice none 0 0,zI (z:Int)]) hwe.symm,rfl⟩
 refine go 1 [] [16,4] .n ?_
 intro a w hs;refine zW hs rfl (zK (hs.mem.del .z)).isSl underlying31 rfl ?_
 refine goL 2 [] [15,4] .n ?_
 refine ifG rfl (fun c_5=>?_) (fun c_5=>?_)
 ·
  refine go 2 [] [3,2] .n ?_
  have hwe:zFp t tm b l = 8:=by unfold zFp;(repeat' split) <;> omega
  refine cl (·.drop (.c (.s .z) (.c .z .n))) ?_
  refine cl (·.addNil 5 1) ?_
  intro a w hs;replace hs:=hs.rerow .z (m':=(gwB t tm b l).length) (xs':=zD (gwB t tm b l)) (by rw [gwB,if_pos (by omega)];rfl) (by rw [gwB,if_pos (by omega)];rfl)
  exact zBO hs rfl rfl rfl ⟨_,congrArg (fun z:Nat=>Value.tuple #[.slice none 0 0,zI (z:Int)]) hwe.symm,rfl⟩
 refine go 1 [] [19] .n ?_
 intro a w hs;refine zG hs (.c rfl .n) call100 .n (zYr _ _ (zDa t tm b l) _ (zK (hs.mem.del .z)) (by omega)) rfl ?_;clear hs w a;rintro v6 _ a w rfl hs
 revert a w hs
 refine goL 2 [] [3,2] .n ?_
 have hwe:zFp t tm b l = 0:=by unfold zFp;(repeat' split) <;> omega
 refine cl (·.drop (.c (.s (.s .z)) (.c (.s .z) .n))) ?_
 refine cl (·.rerow .z (m':=(gwB t tm b l).length) (xs':=zD (gwB t tm b l)) (by rw [gwB,if_neg (by omega),zEG]) (by rw [gwB,if_neg (by omega)])) ?_
 intro a w hs;exact zBO hs rfl rfl rfl ⟨_,congrArg (fun z:Nat=>Value.tuple #[v6,zI (z:Int)]) hwe.symm,rfl⟩
theorem zRP (t tm b:Int) (u:Value) (l:List zAB) (w0:World) (ht_ : -9223372036854775808 ≤ t ∧ t ≤ 9223372036854775807) (htm_ : -9223372036854775808 ≤ tm ∧ tm ≤ 9223372036854775807) (hb_ : -9223372036854775808 ≤ b ∧ b ≤ 9223372036854775807) (hc:Rd w0 [] u 9 l.length (l.flatMap zJ3)) (hl:∀ x ∈ l,x.wf):Calls Tryz.prog 150 #[.agg #[.int .i64 t,.int .i64 tm,.int .i64 b,u]] w0 (zAf w0 (nI (zAT t tm b l))):=by
 have hce:=hc.le
 simp only [maxLen] at hce
 refine zF (F0:=[(0,.agg #[zI t,zI tm,zI b,u])]) func150 rfl rfl rfl (.c .n) (Mem.nil _) ?_
 refine go 3 [0,0] [6] .n (fun g1=>⟨rfl,?_⟩)
 intro a w hs;refine zG hs (.c rfl .n) call99 .n (zNz t tm b _ l _ (by omega) (by omega) (by omega) (hs.rd0 hc) hl) rfl ?_;clear hs w a;rintro _ _ a w ⟨v2,rfl,rfl⟩ hs
 have hk3:=zHJ t tm b l
 revert a w hs
 refine goL 7 [] [2] .n ?_
 refine cl (·.drop (.c (.s .z) (.c .z .n))) ?_
 intro a w hs;exact fin hs rfl rfl ⟨rfl,rfl⟩
end Go.Proofs.YtemnjodhidlfpaaGreat
/- Walks of what is others with an entity: what each function does, over the program of this seat. Printed by a program of this session. -/
namespace Go.Proofs.YtemnjodhidlfpaaGreat
open Tryz
open Go Go.Sx Go.RowKit
set_option linter.unusedVariables false
set_option linter.unusedSimpArgs false
set_option maxRecDepth 4000
set_option maxHeartbeats 1000000

theorem zT5 (ea:zX) (r:zAB) (w0:World):Calls Tryz.prog 152 #[.agg #[zI ea.id,zI ea.p0,zI ea.p1,zI ea.p2,zI ea.v0,zI ea.v1,zI ea.v2,.int .u16 (((ea.a).toNat:Nat):Int),bI ea.g],.agg #[zI r.k,zI r.id,zI r.p0,zI r.p1,zI r.p2,zI r.v0,zI r.v1,zI r.v2,.int .u16 (((r.a).toNat:Nat):Int)]] w0 (zAf w0 (.tuple #[.agg #[zI (((zS ea r).1).id),zI (((zS ea r).1).p0),zI (((zS ea r).1).p1),zI (((zS ea r).1).p2),zI (((zS ea r).1).v0),zI (((zS ea r).1).v1),zI (((zS ea r).1).v2),.int .u16 (((((zS ea r).1).a).toNat:Nat):Int),bI (((zS ea r).1).g)],nI ((zS ea r).2)])):=by
 refine zF (F0:=[(0,.agg #[zI ea.id,zI ea.p0,zI ea.p1,zI ea.p2,zI ea.v0,zI ea.v1,zI ea.v2,.int .u16 (((ea.a).toNat:Nat):Int),bI ea.g]),(1,.agg #[zI r.k,zI r.id,zI r.p0,zI r.p1,zI r.p2,zI r.v0,zI r.v1,zI r.v2,.int .u16 (((r.a).toNat:Nat):Int)])]) func152 rfl rfl rfl (.c (.c .n)) (Mem.nil _) ?_
 refine go 5 [0,0,1] [8,4,3,2] .n (fun g1=>fun g2=>fun g3=>⟨rfl,?_⟩)
 intro a w hs;refine zB (v:=nI (zAc r)) hs (.c rfl .n) call175 (zVa r _) rfl ?_
 refine goL 3 [] [11,6,4,3,2] .n ?_
 refine ifG rfl (fun c_4=>?_) (fun c_4=>?_)
 ·
  refine go 4 [0] [5,4] (.c .z .n) ⟨rfl,?_⟩
  intro a w hs;exact zBi hs rfl rfl rfl .z (.z (.c (.c (.c (.c (.c (.c (.c (.c (.c .n)))))))))) isAgg142 sizeOf142 (.c .z (.c .z (.c .z .n))) (by first | (rw [zCE (by omega)];exact ⟨rfl,rfl⟩) | (rw [zCY (by omega) (by omega)];exact ⟨rfl,rfl⟩) | (rw [zBu (by omega) (by omega) (by omega)];exact ⟨rfl,rfl⟩) | (rw [zBr (by omega) (by omega) (by omega)];exact ⟨rfl,rfl⟩))
 refine go 6 [0,1] [20,4,3,2] (.c (.s .z) (.c (.s .z) .n)) ⟨rfl,rfl,?_⟩
 intro a w hs;refine zT (b:=!((r.id:Int) == ea.id)) (fun c_5=>?_) (fun c_5=>?_)
 ·
  rw [c_5] at hs
  replace c_5:=zFg c_5
  replace c_5:=zAD c_5
  revert a w hs
  refine go 14 [0] [5,4] (.c (.s (.s .z)) .n) ⟨rfl,?_⟩
  intro a w hs;exact zBi hs rfl rfl rfl .z (.z (.c (.c (.c (.c (.c (.c (.c (.c (.c .n)))))))))) isAgg142 sizeOf142 (.c .z (.c .z (.c .z .n))) (by first | (rw [zCE (by omega)];exact ⟨rfl,rfl⟩) | (rw [zCY (by omega) (by omega)];exact ⟨rfl,rfl⟩) | (rw [zBu (by omega) (by omega) (by omega)];exact ⟨rfl,rfl⟩) | (rw [zBr (by omega) (by omega) (by omega)];exact ⟨rfl,rfl⟩))
 rw [c_5] at hs
 replace c_5:=zFa c_5
 replace c_5:=eq_of_beq c_5
 revert a w hs
 refine go 5 [0] [25,4,3,2] (.c .z .n) ⟨rfl,?_⟩
 intro a w hs;refine zT (b:=(r.k:Int) == 0) (fun c_6=>?_) (fun c_6=>?_)
 ·
  rw [c_6] at hs
  replace c_6:=eq_of_beq c_6
  revert a w hs
  refine go 9 [0] [5,4] (.c (.s (.s .z)) .n) ⟨rfl,?_⟩
  intro a w hs;exact zBi hs rfl rfl rfl .z (.z (.c (.c (.c (.c (.c (.c (.c (.c (.c .n)))))))))) isAgg142 sizeOf142 (.c .z (.c .z (.c .z .n))) (by first | (rw [zCE (by omega)];exact ⟨rfl,rfl⟩) | (rw [zCY (by omega) (by omega)];exact ⟨rfl,rfl⟩) | (rw [zBu (by omega) (by omega) (by omega)];exact ⟨rfl,rfl⟩) | (rw [zBr (by omega) (by omega) (by omega)];exact ⟨rfl,rfl⟩))
 rw [c_6] at hs
 replace c_6:=zAD c_6
 revert a w hs
 refine go 5 [0] [14,4,3,2] (.c .z .n) ⟨rfl,?_⟩
 refine ifG rfl (fun c_7=>?_) (fun c_7=>?_)
 ·
  refine go 3 [0] [5,4] (.c (.s (.s .z)) .n) ⟨rfl,?_⟩
  intro a w hs;exact zBi hs rfl rfl rfl .z (.z (.c (.c (.c (.c (.c (.c (.c (.c (.c .n)))))))))) isAgg142 sizeOf142 (.c .z (.c .z (.c .z .n))) (by first | (rw [zCE (by omega)];exact ⟨rfl,rfl⟩) | (rw [zCY (by omega) (by omega)];exact ⟨rfl,rfl⟩) | (rw [zBu (by omega) (by omega) (by omega)];exact ⟨rfl,rfl⟩) | (rw [zBr (by omega) (by omega) (by omega)];exact ⟨rfl,rfl⟩))
 refine go 4 [0] [31,4,3,2] (.c .z .n) ⟨rfl,?_⟩
 refine ifG rfl (fun c_8=>?_) (fun c_8=>?_)
 ·
  refine go 10 [0,1,1,1,0] [44,42,40,38,36,4] (.c (.s .z) (.c .z .n)) ⟨rfl,rfl,rfl,rfl,rfl,?_⟩
  intro a w hs;refine zSh (X:=ea.g) (Y:=1#8) hs rfl rfl rfl (by decide) rfl ?_
  refine goL 3 [0] [5,4] (.c (.s (.s .z)) .n) ⟨rfl,?_⟩
  intro a w hs;exact zBi hs rfl rfl rfl .z (.z (.c (.c (.c (.c (.c (.c (.c (.c (.c .n)))))))))) isAgg142 sizeOf142 (.c .z (.c .z (.c .z .n))) (by first | (rw [zCE (by omega)];exact ⟨rfl,rfl⟩) | (rw [zCY (by omega) (by omega)];exact ⟨rfl,rfl⟩) | (rw [zBu (by omega) (by omega) (by omega)];exact ⟨rfl,rfl⟩) | (rw [zBr (by omega) (by omega) (by omega)];exact ⟨rfl,rfl⟩))
 refine go 1 [] [47,4,3,2] .n ?_
 intro a w hs;refine zC2 3 ?_
 revert a w hs
 refine go 4 [] [7,47,4,3,2] .n ?_
 intro a w hs
 refine zR [.p [] [],.p [] [],.p [1,0] [],.l [2] [0] [11] [],.p [] [],.p [] [],.p [5,4] [],.p [6] [0],.v [7,3] (zI (IntKind.i64.wrap (ea.p0 + r.p0))),.p [] [],.p [9,0] [],.s [10,8] [0] [0] []] [] hs (.c (.s .z) .n) (.c .z .n) (by kernel_rfl) ⟨rfl,rfl,fun _ _ _ _ hm hs K=>zDi hs rfl rfl rfl (vk K),rfl,⟨rfl,by kernel_rfl,fun _=>rfl,rfl,rfl,trivial⟩,fun _=>rfl,?_⟩
 refine goE 0 [] [7,47,4,3,2] .n ?_
 intro a w hs
 refine zR [.p [] [],.p [] [],.p [1,0] [],.l [2] [0] [11] [],.p [] [],.p [] [],.p [5,4] [],.p [6] [0],.v [7,3] (zI (IntKind.i64.wrap (ea.v0 + r.v0))),.p [] [],.p [9,0] [],.s [10,8] [0] [0] []] [] hs (.c (.s (.s .z)) .n) (.c .z .n) (by kernel_rfl) ⟨rfl,rfl,fun _ _ _ _ hm hs K=>zDi hs rfl rfl rfl (vk K),rfl,⟨rfl,by kernel_rfl,fun _=>rfl,rfl,rfl,trivial⟩,fun _=>rfl,?_⟩
 refine goE 2 [] [47,4,3,2] .n ⟨by decide,?_⟩
 intro a w hs;refine zAb ?_
 revert a w hs
 refine go 4 [] [7,47,4,3,2] .n ?_
 intro a w hs
 refine zR [.p [] [],.p [] [],.p [1,0] [],.l [2] [0] [11] [],.p [] [],.p [] [],.p [5,4] [],.p [6] [0],.v [7,3] (zI (IntKind.i64.wrap (ea.p1 + r.p1))),.p [] [],.p [9,0] [],.s [10,8] [0] [0] []] [] hs (.c (.s (.s .z)) .n) (.c .z .n) (by kernel_rfl) ⟨rfl,rfl,fun _ _ _ _ hm hs K=>zDi hs rfl rfl rfl (vk K),rfl,⟨rfl,by kernel_rfl,fun _=>rfl,rfl,rfl,trivial⟩,fun _=>rfl,?_⟩
 refine goE 0 [] [7,47,4,3,2] .n ?_
 intro a w hs
 refine zR [.p [] [],.p [] [],.p [1,0] [],.l [2] [0] [11] [],.p [] [],.p [] [],.p [5,4] [],.p [6] [0],.v [7,3] (zI (IntKind.i64.wrap (ea.v1 + r.v1))),.p [] [],.p [9,0] [],.s [10,8] [0] [0] []] [] hs (.c (.s (.s .z)) .n) (.c .z .n) (by kernel_rfl) ⟨rfl,rfl,fun _ _ _ _ hm hs K=>zDi hs rfl rfl rfl (vk K),rfl,⟨rfl,by kernel_rfl,fun _=>rfl,rfl,rfl,trivial⟩,fun _=>rfl,?_⟩
 refine goE 2 [] [47,4,3,2] .n ⟨by decide,?_⟩
 intro a w hs;refine zAb ?_
 revert a w hs
 refine go 4 [] [7,47,4,3,2] .n ?_
 intro a w hs
 refine zR [.p [] [],.p [] [],.p [1,0] [],.l [2] [0] [11] [],.p [] [],.p [] [],.p [5,4] [],.p [6] [0],.v [7,3] (zI (IntKind.i64.wrap (ea.p2 + r.p2))),.p [] [],.p [9,0] [],.s [10,8] [0] [0] []] [] hs (.c (.s (.s .z)) .n) (.c .z .n) (by kernel_rfl) ⟨rfl,rfl,fun _ _ _ _ hm hs K=>zDi hs rfl rfl rfl (vk K),rfl,⟨rfl,by kernel_rfl,fun _=>rfl,rfl,rfl,trivial⟩,fun _=>rfl,?_⟩
 refine goE 0 [] [7,47,4,3,2] .n ?_
 intro a w hs
 refine zR [.p [] [],.p [] [],.p [1,0] [],.l [2] [0] [11] [],.p [] [],.p [] [],.p [5,4] [],.p [6] [0],.v [7,3] (zI (IntKind.i64.wrap (ea.v2 + r.v2))),.p [] [],.p [9,0] [],.s [10,8] [0] [0] []] [] hs (.c (.s (.s .z)) .n) (.c .z .n) (by kernel_rfl) ⟨rfl,rfl,fun _ _ _ _ hm hs K=>zDi hs rfl rfl rfl (vk K),rfl,⟨rfl,by kernel_rfl,fun _=>rfl,rfl,rfl,trivial⟩,fun _=>rfl,?_⟩
 refine goE 2 [] [47,4,3,2] .n ⟨by decide,?_⟩
 intro a w hs;refine zAb ?_
 revert a w hs
 refine go 6 [0,1] [76,74,4,2] (.c (.s (.s .z)) (.c .z .n)) ⟨rfl,rfl,?_⟩
 intro a w hs;refine zJd (X:=ea.a) (Y:=r.a) hs rfl rfl rfl rfl rfl ?_
 refine goL 5 [0,0,1] [5,4] (.c .z (.c (.s .z) .n)) ⟨rfl,rfl,rfl,?_⟩
 intro a w hs;exact zBi hs rfl rfl rfl (.s .z) (.z (.c (.c (.c (.c (.c (.c (.c (.c (.c .n)))))))))) isAgg142 sizeOf142 (.c .z (.c .z (.c .z .n))) (by first | (rw [zCE (by omega)];exact ⟨rfl,rfl⟩) | (rw [zCY (by omega) (by omega)];exact ⟨rfl,rfl⟩) | (rw [zBu (by omega) (by omega) (by omega)];exact ⟨rfl,rfl⟩) | (rw [zBr (by omega) (by omega) (by omega)];exact ⟨rfl,rfl⟩))
end Go.Proofs.YtemnjodhidlfpaaGreat
