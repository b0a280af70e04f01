import Derived.Test.YtemnjodhidlfpaaGreatQG13
import Derived.Test.YtemnjodhidlfpaaGreatQG14
import Derived.Test.YtemnjodhidlfpaaGreatQSxGrams
import Derived.Test.YtemnjodhidlfpaaGreatQSxRecs
import Derived.Test.YtemnjodhidlfpaaGreatQSxBasB
/- Walks of datagrams: what each function does, over the program of this seat. Printed by a program of this session. -/
namespace Go.Proofs.YtemnjodhidlfpaaGreat
open Tryz
open Go Go.Sx Go.RowKit
set_option linter.unusedVariables false
set_option linter.unusedSimpArgs false
set_option maxRecDepth 4000
set_option maxHeartbeats 1000000

theorem zUw (t tm b:Int) (u:Value) (l:List zAC) (w0:World) (ht_ : -9223372036854775808 ≤ t ∧ t ≤ 9223372036854775807) (htm_ : -9223372036854775808 ≤ tm ∧ tm ≤ 9223372036854775807) (hb_ : -9223372036854775808 ≤ b ∧ b ≤ 9223372036854775807) (hc:Rd w0 [] u 9 l.length (l.flatMap zKH)):Calls Tryz.prog 139 #[.agg #[.int .i64 t,.int .i64 tm,.int .i64 b,u]] w0 (Ret w0 [] fun x N=>∃ v,x = .tuple #[v,nI (zEx t tm b l.length)] ∧ N = [row v 5 1 (zBg t tm b l.length).length (zC (zBg t tm b l.length))]):=by
 have hce:=hc.le
 simp only [maxLen] at hce
 have hv1:=zCx (BitVec.ofInt 64 t).toNat
 have hv2:=zCx (zGC tm).toNat
 have hv3:=zCx (BitVec.ofInt 64 (t - b)).toNat
 have hv4:=zCx (BitVec.ofInt 64 (l.length:Int)).toNat
 have hv5:=zCx (0#64).toNat
 refine zG (F0:=[(0,.agg #[zI t,zI tm,zI b,u])]) func139 rfl rfl rfl (.c .n) (Mem.nil _) ?_
 refine go 7 [0,0] [12,1] .n (fun g1=>⟨rfl,?_⟩)
 intro a w hs;refine zW (b:=decide (t < 0)) (fun c_2=>?_) (fun c_2=>?_)
 ·
  rw [c_2] at hs
  replace c_2:=of_decide_eq_true c_2
  revert a w hs
  refine go 19 [] [3,2] .n ?_
  have hge:zEx t tm b l.length = 3:=by first | exact zDY (by omega) | exact zCH (by omega) (by omega) | exact zDZ (by omega) (by omega) (by omega) | exact zGr (by omega) (by omega) (by omega)
  refine cl (·.drop (.c .z .n)) ?_
  refine cl (·.addNil 5 1) ?_
  intro a w hs;replace hs:=hs.rerow .z (m':=(zBg t tm b l.length).length) (xs':=zC (zBg t tm b l.length)) (by rw [zBg,if_pos (by omega)];rfl) (by rw [zBg,if_pos (by omega)];rfl)
  exact zBO hs rfl rfl rfl ⟨_,congrArg (fun z:Nat=>Value.tuple #[.slice none 0 0,zI (z:Int)]) hge.symm,rfl⟩
 rw [c_2] at hs
 replace c_2:=of_decide_eq_false c_2
 revert a w hs
 refine go 5 [0] [17,1] (.c .z .n) ⟨rfl,?_⟩
 intro a w hs;refine zW (b:=decide (4294967295 < t)) (fun c_3=>?_) (fun c_3=>?_)
 ·
  rw [c_3] at hs
  replace c_3:=of_decide_eq_true c_3
  revert a w hs
  refine go 14 [] [3,2] .n ?_
  have hge:zEx t tm b l.length = 3:=by first | exact zDY (by omega) | exact zCH (by omega) (by omega) | exact zDZ (by omega) (by omega) (by omega) | exact zGr (by omega) (by omega) (by omega)
  refine cl (·.drop (.c .z .n)) ?_
  refine cl (·.addNil 5 1) ?_
  intro a w hs;replace hs:=hs.rerow .z (m':=(zBg t tm b l.length).length) (xs':=zC (zBg t tm b l.length)) (by rw [zBg,if_pos (by omega)];rfl) (by rw [zBg,if_pos (by omega)];rfl)
  exact zBO hs rfl rfl rfl ⟨_,congrArg (fun z:Nat=>Value.tuple #[.slice none 0 0,zI (z:Int)]) hge.symm,rfl⟩
 rw [c_3] at hs
 replace c_3:=of_decide_eq_false c_3
 revert a w hs
 refine go 2 [0] [19,17,1] (.c .z .n) ⟨rfl,?_⟩
 intro a w hs;refine zF hs rfl rfl rfl ?_
 refine zB (v:=.bool (decide (-2305843009213693952 ≤ tm ∧ tm ≤ 2305843009213693952))) hs (.c rfl .n) call87 (zLD tm _) rfl ?_
 refine goL 3 [] [23,1] .n ?_
 intro a w hs;refine zW (b:=!(decide (-2305843009213693952 ≤ tm ∧ tm ≤ 2305843009213693952))) (fun c_4=>?_) (fun c_4=>?_)
 ·
  rw [c_4] at hs
  replace c_4:=zFV c_4
  replace c_4:=of_decide_eq_false c_4
  revert a w hs
  refine go 8 [] [3,2] .n ?_
  have hge:zEx t tm b l.length = 3:=by first | exact zDY (by omega) | exact zCH (by omega) (by omega) | exact zDZ (by omega) (by omega) (by omega) | exact zGr (by omega) (by omega) (by omega)
  refine cl (·.drop (.c .z .n)) ?_
  refine cl (·.addNil 5 1) ?_
  intro a w hs;replace hs:=hs.rerow .z (m':=(zBg t tm b l.length).length) (xs':=zC (zBg t tm b l.length)) (by rw [zBg,if_pos (by omega)];rfl) (by rw [zBg,if_pos (by omega)];rfl)
  exact zBO hs rfl rfl rfl ⟨_,congrArg (fun z:Nat=>Value.tuple #[.slice none 0 0,zI (z:Int)]) hge.symm,rfl⟩
 rw [c_4] at hs
 replace c_4:=zFM c_4
 replace c_4:=of_decide_eq_true c_4
 revert a w hs
 refine go 5 [0] [8,1] (.c .z .n) ⟨rfl,?_⟩
 refine ifG rfl (fun c_5=>?_) (fun c_5=>?_)
 ·
  refine go 2 [] [3,2] .n ?_
  have hge:zEx t tm b l.length = 3:=by first | exact zDY (by omega) | exact zCH (by omega) (by omega) | exact zDZ (by omega) (by omega) (by omega) | exact zGr (by omega) (by omega) (by omega)
  refine cl (·.drop (.c .z .n)) ?_
  refine cl (·.addNil 5 1) ?_
  intro a w hs;replace hs:=hs.rerow .z (m':=(zBg t tm b l.length).length) (xs':=zC (zBg t tm b l.length)) (by rw [zBg,if_pos (by omega)];rfl) (by rw [zBg,if_pos (by omega)];rfl)
  exact zBO hs rfl rfl rfl ⟨_,congrArg (fun z:Nat=>Value.tuple #[.slice none 0 0,zI (z:Int)]) hge.symm,rfl⟩
 refine go 6 [0,0] [28,1] (.c .z .n) ⟨rfl,rfl,?_⟩
 refine ifG rfl (fun c_6=>?_) (fun c_6=>?_)
 ·
  refine go 2 [] [3,2] .n ?_
  have hge:zEx t tm b l.length = 10:=by first | exact zDY (by omega) | exact zCH (by omega) (by omega) | exact zDZ (by omega) (by omega) (by omega) | exact zGr (by omega) (by omega) (by omega)
  refine cl (·.drop (.c .z .n)) ?_
  refine cl (·.addNil 5 1) ?_
  intro a w hs;replace hs:=hs.rerow .z (m':=(zBg t tm b l.length).length) (xs':=zC (zBg t tm b l.length)) (by rw [zBg,if_pos (by omega)];rfl) (by rw [zBg,if_pos (by omega)];rfl)
  exact zBO hs rfl rfl rfl ⟨_,congrArg (fun z:Nat=>Value.tuple #[.slice none 0 0,zI (z:Int)]) hge.symm,rfl⟩
 refine go 2 [0] [36,1] (.c .z .n) ⟨rfl,?_⟩
 intro a w hs;refine zAD hs rfl (hs.rd0 hc).isSl underlying58 rfl ?_
 refine goL 2 [] [34,1] .n ?_
 refine ifG rfl (fun c_7=>?_) (fun c_7=>?_)
 ·
  refine go 2 [] [3,2] .n ?_
  have hge:zEx t tm b l.length = 8:=by first | exact zDY (by omega) | exact zCH (by omega) (by omega) | exact zDZ (by omega) (by omega) (by omega) | exact zGr (by omega) (by omega) (by omega)
  refine cl (·.drop (.c .z .n)) ?_
  refine cl (·.addNil 5 1) ?_
  intro a w hs;replace hs:=hs.rerow .z (m':=(zBg t tm b l.length).length) (xs':=zC (zBg t tm b l.length)) (by rw [zBg,if_pos (by omega)];rfl) (by rw [zBg,if_pos (by omega)];rfl)
  exact zBO hs rfl rfl rfl ⟨_,congrArg (fun z:Nat=>Value.tuple #[.slice none 0 0,zI (z:Int)]) hge.symm,rfl⟩
 refine go 4 [0] [41,4,1] (.c .z .n) ⟨rfl,?_⟩
 refine ifG rfl (fun c_8=>?_) (fun c_8=>?_)
 ·
  refine go 5 [0,0] [46,1] (.c .z .n) ⟨rfl,rfl,(by omega),?_⟩
  intro a w hs;refine zAY hs rfl underlying2 underlying167 rfl ?_
  refine goL 3 [] [5,4,1] .n (fun g9=>?_)
  intro a w hs
  refine zAS [.p [] [],.p [0] [0],.v [1] (qI (BitVec.ofInt 64 t)),.p [] [],.p [3] [0],.v [4] (qI (zGC tm)),.p [] [],.p [] [],.p [7] [0],.v [8] (nI l.length),.v [9] (qI (BitVec.ofInt 64 ((l.length:Nat):Int))),.x [10,6,5,2] ⟨[],[],[],fun vs10=>vs10 11 = .slice (some ⟨(zCs (vs10 11)),0,none⟩) 4 4,fun vs10=>[blk (zCs (vs10 11)) [qI (BitVec.ofInt 64 t),qI (zGC tm),qI (BitVec.ofInt 64 (t - b)),qI (BitVec.ofInt 64 ((l.length:Nat):Int))] 167],none⟩,.y [] (zI 4) [] [] [] fun vs10=>[],.p [] []] [12,13] hs .n .n (.c (.s .z) .n) (by kernel_rfl) ⟨rfl,fun _ _ _ _ hm hs K=>zAY hs rfl underlying2 underlying167 rfl (vk K),rfl,fun _ _ _ _ hm hs K=>zB (v:=qI (zGC tm)) hs (.c rfl .n) call173 (zPv tm _ (by omega)) rfl (vk K),rfl,fun _ _ _ _ hm hs K=>zAD hs rfl (hm.rd0 hc).isSl underlying58 rfl (vk K),fun _ _ _ _ hm hs K=>zAY hs rfl underlying3 underlying167 rfl (vk K),⟨.n,by kernel_rfl,fun _=>rfl,rfl,rfl⟩,⟨?_,?_,trivial⟩,?_⟩
  ·
   intro a_ w_ R_ rest_ vs10 hm hs ht hx
   have hs0:=hs.bare
   refine zIM (cs:=[qI (BitVec.ofInt 64 t),qI (zGC tm),qI (BitVec.ofInt 64 (t - b)),qI (BitVec.ofInt 64 ((l.length:Nat):Int))]) hs (.c (.c (.c (.c .n)))) (.c rfl (.c rfl (.c rfl (.c rfl .n)))) underlying268 (ie:=Tryz.t167) rfl rfl rfl rfl (by decide) (by decide) rfl (by decide) rfl rfl rfl ?_;clear hs;intro g11 a w hs
   exact wpList_nil ⟨rfl,_,_,hs0,(.c (.c (.c (.c .r)))),hs,rfl⟩
  ·
   intro a_ w_ R_ rest_ vs10 hm hs ht hx
   have t11:=ht 11 (zK 14 _ (by kernel_rfl))
   have e11:_ = some (vs10 11):=t11.val rfl
   rw [show vs10 11 = .slice (some ⟨(zCs (vs10 11)),0,none⟩) 4 4 from t11.2.1] at e11
   replace hs:=hs.learn e11
   have hs0:=hs.bare
   refine zAD hs rfl (zAJ (m:=4) (size:=1) (hm.own (List.mem_append.2 (.inr ((ht 11 (zK 14 _ (by kernel_rfl))).2.2 (zHp (n:=14) (by kernel_rfl)) _ (List.Mem.head _))))) rfl (by decide)).isSl underlying268 rfl ?_;clear hs;intro a w hs
   replace hs:=hs.recell (v':=zI 4) (Option.some.inj rfl)
   exact wpList_nil ⟨rfl,_,_,hs0,(.c .r),hs,rfl⟩
  clear hs w a;intro vs10 a w hs hf
  obtain ⟨e11,q11⟩:=hf 11 (by decide)
  replace e11:_ = some (vs10 11):=e11.val rfl
  rw [show vs10 11 = .slice (some ⟨(zCs (vs10 11)),0,none⟩) 4 4 from q11] at e11
  replace hs:=hs.learn e11;clear e11 q11
  generalize zCs (vs10 11) = g12 at hs
  clear hf
  revert a w hs
  refine goE 0 [] [60,62,61,5] .n ?_
  intro a w hs;refine zCt 4 ?_
  revert a w hs
  refine go 2 [] [60,62,61,5] .n ?_
  intro a w hs;refine zAy (j:=0) hs rfl rfl (zAJ (m:=4) (size:=1) (hs.mem.del (.s (.s .z))) rfl (by decide)) (by decide) (by omega) underlying268 sizeOf167 rfl ?_
  intro a w hs;refine zBS (u:=qI (BitVec.ofInt 64 t)) hs rfl (zAJ (m:=4) (size:=1) (hs.mem.del (.s (.s .z))) rfl (by decide)) (by rfl) isAgg167 rfl ?_
  refine goL 3 [] [67,66,60,62,61] .n ?_
  intro a w hs;refine zM hs (.c rfl .n) call174 .n (zEG (BitVec.ofInt 64 t) _) rfl ?_;clear hs w a;rintro v13 _ a w rfl hs
  replace hs:=hs.toRow (size:=1) (m:=2) (.s .z) rfl (by decide)
  refine zBF (size:=1) (bytes:=1) hs rfl rfl .z (zL (hs.mem.del (.s .z))) (zAK _) underlying31 (i:=Tryz.t5) rfl rfl rfl rfl rfl (by decide) (by omega) (by simp only [maxLen];omega) rfl ?_;intro v14
  refine goL 3 [] [62,5,60,61] .n ⟨by decide,?_⟩
  intro a w hs;refine zAa ?_
  revert a w hs
  refine go 2 [] [62,5,60,61] .n ?_
  intro a w hs;refine zAy (j:=1) hs rfl rfl (zAJ (m:=4) (size:=1) (hs.mem.del (.s (.s (.s .z)))) rfl (by decide)) (by decide) (by omega) underlying268 sizeOf167 rfl ?_
  intro a w hs;refine zBS (u:=qI (zGC tm)) hs rfl (zAJ (m:=4) (size:=1) (hs.mem.del (.s (.s (.s .z)))) rfl (by decide)) (by rfl) isAgg167 rfl ?_
  refine goL 3 [] [67,66,62,60,61] .n ?_
  intro a w hs;refine zM hs (.c rfl .n) call174 .n (zEG (zGC tm) _) rfl ?_;clear hs w a;rintro v15 _ a w rfl hs
  refine zBF (size:=1) (bytes:=1) hs rfl rfl (.s .z) (zL (hs.mem.del .z)) (zAK _) underlying31 (i:=Tryz.t5) rfl rfl rfl rfl rfl (by decide) (by omega) (by simp only [maxLen];omega) rfl ?_;intro v16
  refine goL 3 [] [62,5,60,61] .n ⟨by decide,?_⟩
  intro a w hs;refine zAa ?_
  revert a w hs
  refine go 2 [] [62,5,60,61] .n ?_
  intro a w hs;refine zAy (j:=2) hs rfl rfl (zAJ (m:=4) (size:=1) (hs.mem.del (.s (.s (.s (.s .z))))) rfl (by decide)) (by decide) (by omega) underlying268 sizeOf167 rfl ?_
  intro a w hs;refine zBS (u:=qI (BitVec.ofInt 64 (t - b))) hs rfl (zAJ (m:=4) (size:=1) (hs.mem.del (.s (.s (.s (.s .z))))) rfl (by decide)) (by rfl) isAgg167 rfl ?_
  refine goL 3 [] [67,66,62,60,61] .n ?_
  intro a w hs;refine zM hs (.c rfl .n) call174 .n (zEG (BitVec.ofInt 64 (t - b)) _) rfl ?_;clear hs w a;rintro v17 _ a w rfl hs
  refine zBF (size:=1) (bytes:=1) hs rfl rfl (.s .z) (zL (hs.mem.del .z)) (zAK _) underlying31 (i:=Tryz.t5) rfl rfl rfl rfl rfl (by decide) (by omega) (by simp only [maxLen];omega) rfl ?_;intro v18
  refine goL 3 [] [62,5,60,61] .n ⟨by decide,?_⟩
  intro a w hs;refine zAa ?_
  revert a w hs
  refine go 2 [] [62,5,60,61] .n ?_
  intro a w hs;refine zAy (j:=3) hs rfl rfl (zAJ (m:=4) (size:=1) (hs.mem.del (.s (.s (.s (.s (.s .z)))))) rfl (by decide)) (by decide) (by omega) underlying268 sizeOf167 rfl ?_
  intro a w hs;refine zBS (u:=qI (BitVec.ofInt 64 ((l.length:Nat):Int))) hs rfl (zAJ (m:=4) (size:=1) (hs.mem.del (.s (.s (.s (.s (.s .z)))))) rfl (by decide)) (by rfl) isAgg167 rfl ?_
  refine goL 3 [] [67,66,62,60,61] .n ?_
  intro a w hs;refine zM hs (.c rfl .n) call174 .n (zEG (BitVec.ofInt 64 ((l.length:Nat):Int)) _) rfl ?_;clear hs w a;rintro v19 _ a w rfl hs
  refine zBF (size:=1) (bytes:=1) hs rfl rfl (.s .z) (zL (hs.mem.del .z)) (zAK _) underlying31 (i:=Tryz.t5) rfl rfl rfl rfl rfl (by decide) (by omega) (by simp only [maxLen];omega) rfl ?_;intro v20
  refine goL 3 [] [62,5,60,61] .n ⟨by decide,?_⟩
  intro a w hs;refine zAa ?_
  revert a w hs
  refine go 5 [] [3,2] .n ?_
  have hge:zEx t tm b l.length = 0:=by first | exact zDY (by omega) | exact zCH (by omega) (by omega) | exact zDZ (by omega) (by omega) (by omega) | exact zGr (by omega) (by omega) (by omega)
  refine cl (·.drop (.c (.s (.s (.s (.s (.s (.s .z)))))) (.c (.s (.s (.s (.s (.s .z))))) (.c (.s (.s (.s (.s .z)))) (.c (.s (.s (.s .z))) (.c (.s (.s .z)) (.c (.s .z) .n))))))) ?_
  intro a w hs;replace hs:=hs.rerow .z (m':=(zBg t tm b l.length).length) (xs':=zC (zBg t tm b l.length)) (by rw [zBg,if_neg (by omega),zBD,zG6];(first | rw [if_pos (by omega)] | rw [if_neg (by omega)]);simp only [List.length_append,List.length_cons,List.length_nil,zBW]) (by rw [zBg,if_neg (by omega),zBD,zG6];(first | rw [if_pos (by omega)] | rw [if_neg (by omega)]);simp [zC,zKc])
  exact zBO hs rfl rfl rfl ⟨_,congrArg (fun z:Nat=>Value.tuple #[v20,zI (z:Int)]) hge.symm,rfl⟩
 refine go 2 [] [5,4,1] .n (fun g21=>?_)
 intro a w hs
 refine zAS [.p [] [],.p [0] [0],.v [1] (qI (BitVec.ofInt 64 t)),.p [] [],.p [3] [0],.v [4] (qI (zGC tm)),.p [] [],.p [] [],.p [7] [0],.v [8] (nI l.length),.v [9] (qI (BitVec.ofInt 64 ((l.length:Nat):Int))),.x [10,6,5,2] ⟨[],[],[],fun vs22=>vs22 11 = .slice (some ⟨(zCs (vs22 11)),0,none⟩) 4 4,fun vs22=>[blk (zCs (vs22 11)) [qI (BitVec.ofInt 64 t),qI (zGC tm),.int .u64 (0),qI (BitVec.ofInt 64 ((l.length:Nat):Int))] 167],none⟩,.y [] (zI 4) [] [] [] fun vs22=>[],.p [] []] [12,13] hs .n .n (.c (.s .z) .n) (by kernel_rfl) ⟨rfl,fun _ _ _ _ hm hs K=>zAY hs rfl underlying2 underlying167 rfl (vk K),rfl,fun _ _ _ _ hm hs K=>zB (v:=qI (zGC tm)) hs (.c rfl .n) call173 (zPv tm _ (by omega)) rfl (vk K),rfl,fun _ _ _ _ hm hs K=>zAD hs rfl (hm.rd0 hc).isSl underlying58 rfl (vk K),fun _ _ _ _ hm hs K=>zAY hs rfl underlying3 underlying167 rfl (vk K),⟨.n,by kernel_rfl,fun _=>rfl,rfl,rfl⟩,⟨?_,?_,trivial⟩,?_⟩
 ·
  intro a_ w_ R_ rest_ vs22 hm hs ht hx
  have hs0:=hs.bare
  refine zIM (cs:=[qI (BitVec.ofInt 64 t),qI (zGC tm),.int .u64 (0),qI (BitVec.ofInt 64 ((l.length:Nat):Int))]) hs (.c (.c (.c (.c .n)))) (.c rfl (.c rfl (.c rfl (.c rfl .n)))) underlying268 (ie:=Tryz.t167) rfl rfl rfl rfl (by decide) (by decide) rfl (by decide) rfl rfl rfl ?_;clear hs;intro g23 a w hs
  exact wpList_nil ⟨rfl,_,_,hs0,(.c (.c (.c (.c .r)))),hs,rfl⟩
 ·
  intro a_ w_ R_ rest_ vs22 hm hs ht hx
  have t11:=ht 11 (zK 14 _ (by kernel_rfl))
  have e11:_ = some (vs22 11):=t11.val rfl
  rw [show vs22 11 = .slice (some ⟨(zCs (vs22 11)),0,none⟩) 4 4 from t11.2.1] at e11
  replace hs:=hs.learn e11
  have hs0:=hs.bare
  refine zAD hs rfl (zAJ (m:=4) (size:=1) (hm.own (List.mem_append.2 (.inr ((ht 11 (zK 14 _ (by kernel_rfl))).2.2 (zHp (n:=14) (by kernel_rfl)) _ (List.Mem.head _))))) rfl (by decide)).isSl underlying268 rfl ?_;clear hs;intro a w hs
  replace hs:=hs.recell (v':=zI 4) (Option.some.inj rfl)
  exact wpList_nil ⟨rfl,_,_,hs0,(.c .r),hs,rfl⟩
 clear hs w a;intro vs22 a w hs hf
 obtain ⟨e11,q11⟩:=hf 11 (by decide)
 replace e11:_ = some (vs22 11):=e11.val rfl
 rw [show vs22 11 = .slice (some ⟨(zCs (vs22 11)),0,none⟩) 4 4 from q11] at e11
 replace hs:=hs.learn e11;clear e11 q11
 generalize zCs (vs22 11) = g24 at hs
 clear hf
 revert a w hs
 refine goE 0 [] [60,62,61,5] .n ?_
 intro a w hs;refine zCt 4 ?_
 revert a w hs
 refine go 2 [] [60,62,61,5] .n ?_
 intro a w hs;refine zAy (j:=0) hs rfl rfl (zAJ (m:=4) (size:=1) (hs.mem.del (.s (.s .z))) rfl (by decide)) (by decide) (by omega) underlying268 sizeOf167 rfl ?_
 intro a w hs;refine zBS (u:=qI (BitVec.ofInt 64 t)) hs rfl (zAJ (m:=4) (size:=1) (hs.mem.del (.s (.s .z))) rfl (by decide)) (by rfl) isAgg167 rfl ?_
 refine goL 3 [] [67,66,60,62,61] .n ?_
 intro a w hs;refine zM hs (.c rfl .n) call174 .n (zEG (BitVec.ofInt 64 t) _) rfl ?_;clear hs w a;rintro v25 _ a w rfl hs
 replace hs:=hs.toRow (size:=1) (m:=2) (.s .z) rfl (by decide)
 refine zBF (size:=1) (bytes:=1) hs rfl rfl .z (zL (hs.mem.del (.s .z))) (zAK _) underlying31 (i:=Tryz.t5) rfl rfl rfl rfl rfl (by decide) (by omega) (by simp only [maxLen];omega) rfl ?_;intro v26
 refine goL 3 [] [62,5,60,61] .n ⟨by decide,?_⟩
 intro a w hs;refine zAa ?_
 revert a w hs
 refine go 2 [] [62,5,60,61] .n ?_
 intro a w hs;refine zAy (j:=1) hs rfl rfl (zAJ (m:=4) (size:=1) (hs.mem.del (.s (.s (.s .z)))) rfl (by decide)) (by decide) (by omega) underlying268 sizeOf167 rfl ?_
 intro a w hs;refine zBS (u:=qI (zGC tm)) hs rfl (zAJ (m:=4) (size:=1) (hs.mem.del (.s (.s (.s .z)))) rfl (by decide)) (by rfl) isAgg167 rfl ?_
 refine goL 3 [] [67,66,62,60,61] .n ?_
 intro a w hs;refine zM hs (.c rfl .n) call174 .n (zEG (zGC tm) _) rfl ?_;clear hs w a;rintro v27 _ a w rfl hs
 refine zBF (size:=1) (bytes:=1) hs rfl rfl (.s .z) (zL (hs.mem.del .z)) (zAK _) underlying31 (i:=Tryz.t5) rfl rfl rfl rfl rfl (by decide) (by omega) (by simp only [maxLen];omega) rfl ?_;intro v28
 refine goL 3 [] [62,5,60,61] .n ⟨by decide,?_⟩
 intro a w hs;refine zAa ?_
 revert a w hs
 refine go 2 [] [62,5,60,61] .n ?_
 intro a w hs;refine zAy (j:=2) hs rfl rfl (zAJ (m:=4) (size:=1) (hs.mem.del (.s (.s (.s (.s .z))))) rfl (by decide)) (by decide) (by omega) underlying268 sizeOf167 rfl ?_
 intro a w hs;refine zBS (u:=.int .u64 (0)) hs rfl (zAJ (m:=4) (size:=1) (hs.mem.del (.s (.s (.s (.s .z))))) rfl (by decide)) (by rfl) isAgg167 rfl ?_
 refine goL 3 [] [67,66,62,60,61] .n ?_
 intro a w hs;refine zM hs (.c rfl .n) call174 .n (zEG (0#64) _) rfl ?_;clear hs w a;rintro v29 _ a w rfl hs
 refine zBF (size:=1) (bytes:=1) hs rfl rfl (.s .z) (zL (hs.mem.del .z)) (zAK _) underlying31 (i:=Tryz.t5) rfl rfl rfl rfl rfl (by decide) (by omega) (by simp only [maxLen];omega) rfl ?_;intro v30
 refine goL 3 [] [62,5,60,61] .n ⟨by decide,?_⟩
 intro a w hs;refine zAa ?_
 revert a w hs
 refine go 2 [] [62,5,60,61] .n ?_
 intro a w hs;refine zAy (j:=3) hs rfl rfl (zAJ (m:=4) (size:=1) (hs.mem.del (.s (.s (.s (.s (.s .z)))))) rfl (by decide)) (by decide) (by omega) underlying268 sizeOf167 rfl ?_
 intro a w hs;refine zBS (u:=qI (BitVec.ofInt 64 ((l.length:Nat):Int))) hs rfl (zAJ (m:=4) (size:=1) (hs.mem.del (.s (.s (.s (.s (.s .z)))))) rfl (by decide)) (by rfl) isAgg167 rfl ?_
 refine goL 3 [] [67,66,62,60,61] .n ?_
 intro a w hs;refine zM hs (.c rfl .n) call174 .n (zEG (BitVec.ofInt 64 ((l.length:Nat):Int)) _) rfl ?_;clear hs w a;rintro v31 _ a w rfl hs
 refine zBF (size:=1) (bytes:=1) hs rfl rfl (.s .z) (zL (hs.mem.del .z)) (zAK _) underlying31 (i:=Tryz.t5) rfl rfl rfl rfl rfl (by decide) (by omega) (by simp only [maxLen];omega) rfl ?_;intro v32
 refine goL 3 [] [62,5,60,61] .n ⟨by decide,?_⟩
 intro a w hs;refine zAa ?_
 revert a w hs
 refine go 5 [] [3,2] .n ?_
 have hge:zEx t tm b l.length = 0:=by first | exact zDY (by omega) | exact zCH (by omega) (by omega) | exact zDZ (by omega) (by omega) (by omega) | exact zGr (by omega) (by omega) (by omega)
 refine cl (·.drop (.c (.s (.s (.s (.s (.s (.s .z)))))) (.c (.s (.s (.s (.s (.s .z))))) (.c (.s (.s (.s (.s .z)))) (.c (.s (.s (.s .z))) (.c (.s (.s .z)) (.c (.s .z) .n))))))) ?_
 intro a w hs;replace hs:=hs.rerow .z (m':=(zBg t tm b l.length).length) (xs':=zC (zBg t tm b l.length)) (by rw [zBg,if_neg (by omega),zBD,zG6];(first | rw [if_pos (by omega)] | rw [if_neg (by omega)]);simp only [List.length_append,List.length_cons,List.length_nil,zBW]) (by rw [zBg,if_neg (by omega),zBD,zG6];(first | rw [if_pos (by omega)] | rw [if_neg (by omega)]);simp [zC,zKc])
 exact zBO hs rfl rfl rfl ⟨_,congrArg (fun z:Nat=>Value.tuple #[v32,zI (z:Int)]) hge.symm,rfl⟩
theorem zNr (t tm b:Int) (u:Value) (l:List zAC) (w0:World) (ht_ : -9223372036854775808 ≤ t ∧ t ≤ 9223372036854775807) (htm_ : -9223372036854775808 ≤ tm ∧ tm ≤ 9223372036854775807) (hb_ : -9223372036854775808 ≤ b ∧ b ≤ 9223372036854775807) (hc:Rd w0 [] u 9 l.length (l.flatMap zKH)) (hl:∀ x ∈ l,x.wf):Calls Tryz.prog 99 #[.agg #[.int .i64 t,.int .i64 tm,.int .i64 b,u]] w0 (Ret w0 [] fun x N=>∃ v,x = .tuple #[v,nI (zAU t tm b l)] ∧ N = [row v 5 1 (zDV t tm b l).length (zC (zDV t tm b l))]):=by
 have hce:=hc.le
 simp only [maxLen] at hce
 refine zG (F0:=[(0,.agg #[zI t,zI tm,zI b,u])]) func99 rfl rfl rfl (.c .n) (Mem.nil _) ?_
 refine go 4 [0,0] [12,1] .n (fun g1=>⟨rfl,?_⟩)
 intro a w hs;refine zM hs (.c rfl .n) call139 .n (zUw t tm b _ l _ (by omega) (by omega) (by omega) (hs.rd0 hc)) rfl ?_;clear hs w a;rintro _ _ a w ⟨v2,rfl,rfl⟩ hs
 have hk3:=zFk t tm b l.length
 revert a w hs
 refine goL 7 [] [17,5,4,1] .n ?_
 refine ifG rfl (fun c_4=>?_) (fun c_4=>?_)
 ·
  refine go 3 [] [3,2] .n ?_
  have hbe:zAU t tm b l = zEx t tm b l.length:=by first | exact zCA (by omega) | exact (zCA (by rw [(show zEx t tm b l.length = _ by first | exact zDY (by omega) | exact zCH (by omega) (by omega) | exact zDZ (by omega) (by omega) (by omega))];decide)).trans (show zEx t tm b l.length = _ by first | exact zDY (by omega) | exact zCH (by omega) (by omega) | exact zDZ (by omega) (by omega) (by omega)) | (rw [zCB (by omega)];exact zGN (by omega) hI1_1 (by unfold zFC;omega)) | (rw [zCB (by omega)];unfold zCW;rw [← show j = l.length by omega];exact hI1_1)
  refine cl (·.drop (.c (.s .z) (.c .z .n))) ?_
  refine cl (·.addNil 5 1) ?_
  intro a w hs;replace hs:=hs.rerow .z (m':=(zDV t tm b l).length) (xs':=zC (zDV t tm b l)) (by rw [zFi (by omega)];rfl) (by rw [zFi (by omega)];rfl)
  exact zBO hs rfl rfl rfl ⟨_,congrArg (fun z:Nat=>Value.tuple #[.slice none 0 0,zI (z:Int)]) hbe.symm,rfl⟩
 have hgp:=zGL (t:=t) (tm:=tm) (b:=b) (m:=l.length) (by omega)
 refine cl (·.rerow .z (m':=(zBD t tm b l.length).length) (xs':=zC (zBD t tm b l.length)) (by rw [zBg,if_neg (by omega)]) (by rw [zBg,if_neg (by omega)])) ?_
 refine go 3 [0] [20,6,4] (.c (.s .z) .n) ⟨rfl,?_⟩
 intro a w hs;refine zAD hs rfl (hs.rd0 hc).isSl underlying58 rfl ?_
 refine goL 1 [] [22,21,20,6,4] .n ?_
 refine cl (·.drop (.c .z .n)) ?_
 intro a w hs;replace hs:=hs.rerow .z (m':=(zBD t tm b l.length).length + (zCZ (l.take 0)).1.length) (xs':=zC (zBD t tm b l.length ++ (zCZ (l.take 0)).1)) (by show _ = _ + 0;first | rfl | (simp only [zBW,zBD,List.length_append,List.length_cons,List.length_nil];omega)) (by show _ = zC (_ ++ []);rw [List.append_nil])
 refine zCL (fun mm_ a w=>∃ j:Nat,∃ p:Value,mm_ = l.length - j ∧ St 42 [(4,p),(6,zI ((zCZ (l.take j)).2)),(20,u),(21,nI l.length),(22,zI (j:Int))] w0 [] [row p 5 1 ((zBD t tm b l.length).length + (zCZ (l.take j)).1.length) (zC (zBD t tm b l.length ++ (zCZ (l.take j)).1))] a w ∧ j ≤ l.length ∧ zB6 l j = 0) ⟨0,v2,rfl,hs.sub (.c rfl (.c rfl (.c rfl (.c rfl (.c rfl .n))))),by omega,rfl⟩ ?_
 clear hs w a;rintro mm_ a w ⟨j,p,rfl,hs,hI1_0,hI1_1⟩
 have hll:=zMJ hI1_0 hI1_1
 have hrl:=zMz (l.take j)
 have htl:(l.take j).length ≤ j:=by rw [List.length_take];omega
 revert a w hs
 refine go 1 [] [23,4,6,20,21,22] .n ?_
 refine ifG rfl (fun c_5=>?_) (fun c_5=>?_)
 ·
  refine go 0 [] [4,6,20,21,22] .n ?_
  intro a w hs;refine zBL (j:=j) hs rfl rfl (hs.rd0 hc) rfl (by omega) underlying58 sizeOf131 rfl ?_
  intro a w hs;refine zBA (cs:=zKH (l.getD j default)) hs rfl (hs.rd0 hc) (zAT zHB l j (by omega)) (by rw [zAN zHB];omega) (by omega) isAgg131 sizeOf131 rfl ?_
  refine goL 4 [0,0] [28,27,8,4,20,21,22] .n (fun g6=>⟨rfl,rfl,?_⟩)
  intro a w hs;refine zM hs (.c rfl (.c rfl .n)) call140 .n (zUn (l.getD j default) ((zCZ (l.take j)).2) _ (zLJ hl (by omega)) (by omega)) rfl ?_;clear hs w a;rintro _ _ a w ⟨v7,rfl,rfl⟩ hs
  have hk8:=zH1 (l.getD j default) ((zCZ (l.take j)).2)
  revert a w hs
  refine goL 7 [] [33,10,9,8,4,20,21,22] .n ?_
  refine ifG rfl (fun c_9=>?_) (fun c_9=>?_)
  ·
   refine go 3 [] [3,2] .n ?_
   have hbe:zAU t tm b l = zAz (l.getD j default) ((zCZ (l.take j)).2):=by first | exact zCA (by omega) | exact (zCA (by rw [(show zEx t tm b l.length = _ by first | exact zDY (by omega) | exact zCH (by omega) (by omega) | exact zDZ (by omega) (by omega) (by omega))];decide)).trans (show zEx t tm b l.length = _ by first | exact zDY (by omega) | exact zCH (by omega) (by omega) | exact zDZ (by omega) (by omega) (by omega)) | (rw [zCB (by omega)];exact zGN (by omega) hI1_1 (by unfold zFC;omega)) | (rw [zCB (by omega)];unfold zCW;rw [← show j = l.length by omega];exact hI1_1)
   refine cl (·.drop (.c (.s (.s .z)) (.c (.s .z) (.c .z .n)))) ?_
   refine cl (·.addNil 5 1) ?_
   intro a w hs;replace hs:=hs.rerow .z (m':=(zDV t tm b l).length) (xs':=zC (zDV t tm b l)) (by rw [zFi (by omega)];rfl) (by rw [zFi (by omega)];rfl)
   exact zBO hs rfl rfl rfl ⟨_,congrArg (fun z:Nat=>Value.tuple #[.slice none 0 0,zI (z:Int)]) hbe.symm,rfl⟩
  refine go 0 [] [9,8,4,20,21,22] .n ?_
  refine cl (·.sub (F':=[(9,v7),(8,pt g6 0),(4,p),(20,u),(21,nI l.length),(22,zI (j:Int))]) (.c rfl (.c rfl (.c rfl (.c rfl (.c rfl (.c rfl .n))))))) ?_
  intro a w hs
  have hs1:=hs
  replace hs:=hs.sub (F':=[(9,v7),(8,pt g6 0),(20,u),(21,nI l.length),(22,zI (j:Int))]) (.c rfl (.c rfl (.c rfl (.c rfl (.c rfl .n)))))
  refine zQY (M0:=[row v7 5 1 ((zCd (l.getD j default) ((zCZ (l.take j)).2)).length) (zC (zCd (l.getD j default) ((zCZ (l.take j)).2))),blk g6 [zI ((l.getD j default).k),zI ((l.getD j default).id),zI ((l.getD j default).p0),zI ((l.getD j default).p1),zI ((l.getD j default).p2),zI ((l.getD j default).v0),zI ((l.getD j default).v1),zI ((l.getD j default).v2),.int .u16 ((((l.getD j default).a).toNat:Nat):Int)] 131]) (Ds:=[Pv 0 p,Pv 1 v7,⟨[row p 5 1 ((zBD t tm b l.length).length + (zCZ (l.take j)).1.length) (zC (zBD t tm b l.length ++ (zCZ (l.take j)).1))],[],[],fun vs10=>True,fun vs10=>[row (vs10 2) 5 1 (((zBD t tm b l.length).length + (zCZ (l.take j)).1.length) + ((zCd (l.getD j default) ((zCZ (l.take j)).2)).length)) ((zC (zBD t tm b l.length ++ (zCZ (l.take j)).1)) ++ (zC (zCd (l.getD j default) ((zCZ (l.take j)).2))))],none⟩,Pv 3 (pt g6 1),Pv 4 (zI ((l.getD j default).id)),⟨[],[],[2],fun vs10=>vs10 5 = (vs10 2),fun vs10=>[],some (p)⟩,Pv 6 (zI ((l.getD j default).id))]) (by kernel_rfl) hs rfl (.c (.s (.s .z)) .n) (by kernel_rfl) (by kernel_rfl) ?_ (zVj.get (.z rfl (.z rfl (.z rfl (.z rfl (.z rfl (.s rfl rfl rfl (.z rfl .n))))))) hs1) ?_
  all_goals clear hs1
  ·
   refine (.c ?_ (.c ?_ (.c ?_ (.c ?_ (.c ?_ (.c ?_ (.c ?_ .n)))))))
   · exact zAm (m:=7) (.o (j:=5) (by kernel_rfl) rfl rfl .n) (fun hm0 hm hx=>.n) (by kernel_rfl) (by kernel_rfl) rfl
   · exact zAm (m:=7) .n (fun hm0 hm hx=>.n) (by kernel_rfl) (by kernel_rfl) rfl
   ·
    intro a_ w_ R_ rest_ vs10 hm hs ht hx
    replace hs:St _ _ _ (zO [row p 5 1 ((zBD t tm b l.length).length + (zCZ (l.take j)).1.length) (zC (zBD t tm b l.length ++ (zCZ (l.take j)).1))]) [row p 5 1 ((zBD t tm b l.length).length + (zCZ (l.take j)).1.length) (zC (zBD t tm b l.length ++ (zCZ (l.take j)).1))] _ _:=hs
    have hm0:=hm.mid
    replace hs:=hs.lrn (ht 0 (zK 7 _ (by kernel_rfl))) rfl rfl
    replace hs:=hs.lrn (ht 1 (zK 7 _ (by kernel_rfl))) rfl rfl
    have hs0:=hs.bare
    refine zBF (size:=1) (bytes:=1) hs rfl rfl .z (zL (hm0.del .z)) (zAK _) underlying31 (i:=Tryz.t5) rfl rfl rfl rfl rfl (by decide) (by omega) (by simp only [maxLen];omega) rfl ?_;clear hs;intro v11 a w hs
    exact wpList_nil ⟨rfl,_,_,hs0,(.c (.c .r)),hs,trivial⟩
   · exact zAm (m:=7) .n (fun hm0 hm hx=>.n) (by kernel_rfl) (by kernel_rfl) rfl
   · exact zAm (m:=7) (.c (k:=3) (by kernel_rfl) rfl rfl .n) (fun hm0 hm hx=>(.c (hm0.del (.s .z)))) (by kernel_rfl) (by kernel_rfl) rfl
   ·
    intro a_ w_ R_ rest_ vs10 hm hs ht hx
    have hm0:=hm.mid
    have t2:=ht 2 (zK 7 _ (by kernel_rfl))
    have e2:_ = some (vs10 2):=t2.val rfl
    replace hs:=hs.learn e2
    have hs0:=hs.bare
    refine zEN hs rfl rfl ?_;clear hs;intro a w hs
    exact wpList_nil ⟨rfl,_,_,hs0,(.c .r),hs,rfl⟩
   exact zAm (m:=7) (.c (k:=4) (by kernel_rfl) rfl rfl .n) (fun hm0 hm hx=>.n) (by kernel_rfl) (by kernel_rfl) rfl
  clear hs w a;intro a w vs10 hs hf
  replace hs:St _ _ _ _ [row v7 5 1 ((zCd (l.getD j default) ((zCZ (l.take j)).2)).length) (zC (zCd (l.getD j default) ((zCZ (l.take j)).2))),blk g6 [zI ((l.getD j default).k),zI ((l.getD j default).id),zI ((l.getD j default).p0),zI ((l.getD j default).p1),zI ((l.getD j default).p2),zI ((l.getD j default).v0),zI ((l.getD j default).v1),zI ((l.getD j default).v2),.int .u16 ((((l.getD j default).a).toNat:Nat):Int)] 131,row (vs10 2) 5 1 (((zBD t tm b l.length).length + (zCZ (l.take j)).1.length) + ((zCd (l.getD j default) ((zCZ (l.take j)).2)).length)) ((zC (zBD t tm b l.length ++ (zCZ (l.take j)).1)) ++ (zC (zCd (l.getD j default) ((zCZ (l.take j)).2))))] _ _:=hs
  obtain ⟨e5,q5⟩:=hf 5 (by decide)
  replace e5:_ = some (vs10 5):=e5.val rfl
  rw [show vs10 5 = (vs10 2) from q5] at e5
  replace hs:=hs.learn e5;clear e5 q5
  obtain ⟨e6,q6⟩:=hf 6 (by decide)
  replace e6:_ = some (vs10 6):=e6.val rfl
  rw [show vs10 6 = zI ((l.getD j default).id) from q6] at e6
  replace hs:=hs.learn e6;clear e6 q6
  generalize vs10 2 = v12 at hs
  clear hf
  revert a w hs
  refine goE 2 [] [22,6,4,20,21] .n ⟨(by omega),?_⟩
  have he0:zFC l j = 0:=by unfold zFC;omega
  intro a w hs;replace hs:=hs.rerow (.s (.s .z)) (m':=(zBD t tm b l.length).length + (zCZ (l.take (j + 1))).1.length) (xs':=zC (zBD t tm b l.length ++ (zCZ (l.take (j + 1))).1)) (by rw [zCq (by omega)];simp only [List.length_append];omega) (by rw [zCq (by omega)];simp [zC])
  replace hs:=hs.reslot (d:=6) (v:=zI ((l.getD j default).id)) (v':=zI ((zCZ (l.take (j + 1))).2)) rfl (Option.some.inj (by rw [zCq (by omega)]))
  replace hs:=hs.drop (.c (.s (.s .z)) (.c (.s .z) .n))
  refine ⟨_,?_,j + 1,v12,rfl,hs.sub (.c rfl (.c rfl (.c rfl (.c rfl (.c rfl .n))))),by omega,zPk hI1_1 he0⟩
  omega
 refine go 3 [] [3,2] .n ?_
 have hbe:zAU t tm b l = 0:=by first | exact zCA (by omega) | exact (zCA (by rw [(show zEx t tm b l.length = _ by first | exact zDY (by omega) | exact zCH (by omega) (by omega) | exact zDZ (by omega) (by omega) (by omega))];decide)).trans (show zEx t tm b l.length = _ by first | exact zDY (by omega) | exact zCH (by omega) (by omega) | exact zDZ (by omega) (by omega) (by omega)) | (rw [zCB (by omega)];exact zGN (by omega) hI1_1 (by unfold zFC;omega)) | (rw [zCB (by omega)];unfold zCW;rw [← show j = l.length by omega];exact hI1_1)
 have hta:l.take j = l:=List.take_of_length_le (by omega)
 intro a w hs;replace hs:=hs.rerow .z (m':=(zDV t tm b l).length) (xs':=zC (zDV t tm b l)) (by rw [zJg hbe,hta];simp only [List.length_append]) (by rw [zJg hbe,hta])
 exact zBO hs rfl rfl rfl ⟨_,congrArg (fun z:Nat=>Value.tuple #[p,zI (z:Int)]) hbe.symm,rfl⟩
theorem zPo (t tm b:Int) (u:Value) (l:List zAC) (w0:World) (ht_ : -9223372036854775808 ≤ t ∧ t ≤ 9223372036854775807) (htm_ : -9223372036854775808 ≤ tm ∧ tm ≤ 9223372036854775807) (hb_ : -9223372036854775808 ≤ b ∧ b ≤ 9223372036854775807) (hc:Rd w0 [] u 9 l.length (l.flatMap zKH)) (hl:∀ x ∈ l,x.wf):Calls Tryz.prog 60 #[.agg #[.int .i64 t,.int .i64 tm,.int .i64 b,u]] w0 (Ret w0 [] fun x N=>∃ v,x = .tuple #[v,nI (zFQ t tm b l)] ∧ N = [row v 5 1 (gwB t tm b l).length (zC (gwB t tm b l))]):=by
 have hce:=hc.le
 simp only [maxLen] at hce
 refine zG (F0:=[(0,.agg #[zI t,zI tm,zI b,u])]) func60 rfl rfl rfl (.c .n) (Mem.nil _) ?_
 refine go 4 [0,0] [7] .n (fun g1=>⟨rfl,?_⟩)
 intro a w hs;refine zM hs (.c rfl .n) call99 .n (zNr t tm b _ l _ (by omega) (by omega) (by omega) (hs.rd0 hc) hl) rfl ?_;clear hs w a;rintro _ _ a w ⟨v2,rfl,rfl⟩ hs
 have hk3:=zGm t tm b l
 revert a w hs
 refine goL 8 [] [11,5,4] .n ?_
 refine ifG rfl (fun c_4=>?_) (fun c_4=>?_)
 ·
  refine go 3 [] [3,2] .n ?_
  have hwe:zFQ t tm b l = zAU t tm b l:=by unfold zFQ;(repeat' split) <;> omega
  refine cl (·.drop (.c (.s .z) (.c .z .n))) ?_
  refine cl (·.addNil 5 1) ?_
  intro a w hs;replace hs:=hs.rerow .z (m':=(gwB t tm b l).length) (xs':=zC (gwB t tm b l)) (by rw [gwB,if_pos (by omega)];rfl) (by rw [gwB,if_pos (by omega)];rfl)
  exact zBO hs rfl rfl rfl ⟨_,congrArg (fun z:Nat=>Value.tuple #[.slice none 0 0,zI (z:Int)]) hwe.symm,rfl⟩
 refine go 1 [] [16,4] .n ?_
 intro a w hs;refine zAD hs rfl (zL (hs.mem.del .z)).isSl underlying31 rfl ?_
 refine goL 2 [] [15,4] .n ?_
 refine ifG rfl (fun c_5=>?_) (fun c_5=>?_)
 ·
  refine go 2 [] [3,2] .n ?_
  have hwe:zFQ t tm b l = 8:=by unfold zFQ;(repeat' split) <;> omega
  refine cl (·.drop (.c (.s .z) (.c .z .n))) ?_
  refine cl (·.addNil 5 1) ?_
  intro a w hs;replace hs:=hs.rerow .z (m':=(gwB t tm b l).length) (xs':=zC (gwB t tm b l)) (by rw [gwB,if_pos (by omega)];rfl) (by rw [gwB,if_pos (by omega)];rfl)
  exact zBO hs rfl rfl rfl ⟨_,congrArg (fun z:Nat=>Value.tuple #[.slice none 0 0,zI (z:Int)]) hwe.symm,rfl⟩
 refine go 1 [] [19] .n ?_
 intro a w hs;refine zM hs (.c rfl .n) call100 .n (zXa _ _ (zDV t tm b l) _ (zL (hs.mem.del .z)) (by omega)) rfl ?_;clear hs w a;rintro v6 _ a w rfl hs
 revert a w hs
 refine goL 2 [] [3,2] .n ?_
 have hwe:zFQ t tm b l = 0:=by unfold zFQ;(repeat' split) <;> omega
 refine cl (·.drop (.c (.s (.s .z)) (.c (.s .z) .n))) ?_
 refine cl (·.rerow .z (m':=(gwB t tm b l).length) (xs':=zC (gwB t tm b l)) (by rw [gwB,if_neg (by omega),zD3]) (by rw [gwB,if_neg (by omega)])) ?_
 intro a w hs;exact zBO hs rfl rfl rfl ⟨_,congrArg (fun z:Nat=>Value.tuple #[v6,zI (z:Int)]) hwe.symm,rfl⟩
theorem zQv (t tm b:Int) (u:Value) (l:List zAC) (w0:World) (ht_ : -9223372036854775808 ≤ t ∧ t ≤ 9223372036854775807) (htm_ : -9223372036854775808 ≤ tm ∧ tm ≤ 9223372036854775807) (hb_ : -9223372036854775808 ≤ b ∧ b ≤ 9223372036854775807) (hc:Rd w0 [] u 9 l.length (l.flatMap zKH)) (hl:∀ x ∈ l,x.wf):Calls Tryz.prog 150 #[.agg #[.int .i64 t,.int .i64 tm,.int .i64 b,u]] w0 (zAj w0 (nI (zAU t tm b l))):=by
 have hce:=hc.le
 simp only [maxLen] at hce
 refine zG (F0:=[(0,.agg #[zI t,zI tm,zI b,u])]) func150 rfl rfl rfl (.c .n) (Mem.nil _) ?_
 refine go 3 [0,0] [6] .n (fun g1=>⟨rfl,?_⟩)
 intro a w hs;refine zM hs (.c rfl .n) call99 .n (zNr t tm b _ l _ (by omega) (by omega) (by omega) (hs.rd0 hc) hl) rfl ?_;clear hs w a;rintro _ _ a w ⟨v2,rfl,rfl⟩ hs
 have hk3:=zGm t tm b l
 revert a w hs
 refine goL 7 [] [2] .n ?_
 refine cl (·.drop (.c (.s .z) (.c .z .n))) ?_
 intro a w hs;exact fin hs rfl rfl ⟨rfl,rfl⟩
end Go.Proofs.YtemnjodhidlfpaaGreat
/- Walks of what is others with an entity: what each function does, over the program of this seat. Printed by a program of this session. -/
namespace Go.Proofs.YtemnjodhidlfpaaGreat
open Tryz
open Go Go.Sx Go.RowKit
set_option linter.unusedVariables false
set_option linter.unusedSimpArgs false
set_option maxRecDepth 4000
set_option maxHeartbeats 1000000

theorem zTI (ea:zZ) (r:zAC) (w0:World):Calls Tryz.prog 152 #[.agg #[zI ea.id,zI ea.p0,zI ea.p1,zI ea.p2,zI ea.v0,zI ea.v1,zI ea.v2,.int .u16 (((ea.a).toNat:Nat):Int),bI ea.g],.agg #[zI r.k,zI r.id,zI r.p0,zI r.p1,zI r.p2,zI r.v0,zI r.v1,zI r.v2,.int .u16 (((r.a).toNat:Nat):Int)]] w0 (zAj w0 (.tuple #[.agg #[zI (((zT ea r).1).id),zI (((zT ea r).1).p0),zI (((zT ea r).1).p1),zI (((zT ea r).1).p2),zI (((zT ea r).1).v0),zI (((zT ea r).1).v1),zI (((zT ea r).1).v2),.int .u16 (((((zT ea r).1).a).toNat:Nat):Int),bI (((zT ea r).1).g)],nI ((zT ea r).2)])):=by
 refine zG (F0:=[(0,.agg #[zI ea.id,zI ea.p0,zI ea.p1,zI ea.p2,zI ea.v0,zI ea.v1,zI ea.v2,.int .u16 (((ea.a).toNat:Nat):Int),bI ea.g]),(1,.agg #[zI r.k,zI r.id,zI r.p0,zI r.p1,zI r.p2,zI r.v0,zI r.v1,zI r.v2,.int .u16 (((r.a).toNat:Nat):Int)])]) func152 rfl rfl rfl (.c (.c .n)) (Mem.nil _) ?_
 refine go 5 [0,0,1] [8,4,3,2] .n (fun g1=>fun g2=>fun g3=>⟨rfl,?_⟩)
 intro a w hs;refine zB (v:=nI (zAf r)) hs (.c rfl .n) call175 (zVT r _) rfl ?_
 refine goL 3 [] [11,6,4,3,2] .n ?_
 refine ifG rfl (fun c_4=>?_) (fun c_4=>?_)
 ·
  refine go 4 [0] [5,4] (.c .z .n) ⟨rfl,?_⟩
  intro a w hs;exact zBd hs rfl rfl rfl .z (.z (.c (.c (.c (.c (.c (.c (.c (.c (.c .n)))))))))) isAgg142 sizeOf142 (.c .z (.c .z (.c .z .n))) (by first | (rw [zB7 (by omega)];exact ⟨rfl,rfl⟩) | (rw [zCT (by omega) (by omega)];exact ⟨rfl,rfl⟩) | (rw [zBk (by omega) (by omega) (by omega)];exact ⟨rfl,rfl⟩) | (rw [zBn (by omega) (by omega) (by omega)];exact ⟨rfl,rfl⟩))
 refine go 6 [0,1] [20,4,3,2] (.c (.s .z) (.c (.s .z) .n)) ⟨rfl,rfl,?_⟩
 intro a w hs;refine zW (b:=!((r.id:Int) == ea.id)) (fun c_5=>?_) (fun c_5=>?_)
 ·
  rw [c_5] at hs
  replace c_5:=zFV c_5
  replace c_5:=zAQ c_5
  revert a w hs
  refine go 14 [0] [5,4] (.c (.s (.s .z)) .n) ⟨rfl,?_⟩
  intro a w hs;exact zBd hs rfl rfl rfl .z (.z (.c (.c (.c (.c (.c (.c (.c (.c (.c .n)))))))))) isAgg142 sizeOf142 (.c .z (.c .z (.c .z .n))) (by first | (rw [zB7 (by omega)];exact ⟨rfl,rfl⟩) | (rw [zCT (by omega) (by omega)];exact ⟨rfl,rfl⟩) | (rw [zBk (by omega) (by omega) (by omega)];exact ⟨rfl,rfl⟩) | (rw [zBn (by omega) (by omega) (by omega)];exact ⟨rfl,rfl⟩))
 rw [c_5] at hs
 replace c_5:=zFM c_5
 replace c_5:=eq_of_beq c_5
 revert a w hs
 refine go 5 [0] [25,4,3,2] (.c .z .n) ⟨rfl,?_⟩
 intro a w hs;refine zW (b:=(r.k:Int) == 0) (fun c_6=>?_) (fun c_6=>?_)
 ·
  rw [c_6] at hs
  replace c_6:=eq_of_beq c_6
  revert a w hs
  refine go 9 [0] [5,4] (.c (.s (.s .z)) .n) ⟨rfl,?_⟩
  intro a w hs;exact zBd hs rfl rfl rfl .z (.z (.c (.c (.c (.c (.c (.c (.c (.c (.c .n)))))))))) isAgg142 sizeOf142 (.c .z (.c .z (.c .z .n))) (by first | (rw [zB7 (by omega)];exact ⟨rfl,rfl⟩) | (rw [zCT (by omega) (by omega)];exact ⟨rfl,rfl⟩) | (rw [zBk (by omega) (by omega) (by omega)];exact ⟨rfl,rfl⟩) | (rw [zBn (by omega) (by omega) (by omega)];exact ⟨rfl,rfl⟩))
 rw [c_6] at hs
 replace c_6:=zAQ c_6
 revert a w hs
 refine go 5 [0] [14,4,3,2] (.c .z .n) ⟨rfl,?_⟩
 refine ifG rfl (fun c_7=>?_) (fun c_7=>?_)
 ·
  refine go 3 [0] [5,4] (.c (.s (.s .z)) .n) ⟨rfl,?_⟩
  intro a w hs;exact zBd hs rfl rfl rfl .z (.z (.c (.c (.c (.c (.c (.c (.c (.c (.c .n)))))))))) isAgg142 sizeOf142 (.c .z (.c .z (.c .z .n))) (by first | (rw [zB7 (by omega)];exact ⟨rfl,rfl⟩) | (rw [zCT (by omega) (by omega)];exact ⟨rfl,rfl⟩) | (rw [zBk (by omega) (by omega) (by omega)];exact ⟨rfl,rfl⟩) | (rw [zBn (by omega) (by omega) (by omega)];exact ⟨rfl,rfl⟩))
 refine go 4 [0] [31,4,3,2] (.c .z .n) ⟨rfl,?_⟩
 refine ifG rfl (fun c_8=>?_) (fun c_8=>?_)
 ·
  refine go 10 [0,1,1,1,0] [44,42,40,38,36,4] (.c (.s .z) (.c .z .n)) ⟨rfl,rfl,rfl,rfl,rfl,?_⟩
  intro a w hs;refine zQN (X:=ea.g) (Y:=1#8) hs rfl rfl rfl (by decide) rfl ?_
  refine goL 3 [0] [5,4] (.c (.s (.s .z)) .n) ⟨rfl,?_⟩
  intro a w hs;exact zBd hs rfl rfl rfl .z (.z (.c (.c (.c (.c (.c (.c (.c (.c (.c .n)))))))))) isAgg142 sizeOf142 (.c .z (.c .z (.c .z .n))) (by first | (rw [zB7 (by omega)];exact ⟨rfl,rfl⟩) | (rw [zCT (by omega) (by omega)];exact ⟨rfl,rfl⟩) | (rw [zBk (by omega) (by omega) (by omega)];exact ⟨rfl,rfl⟩) | (rw [zBn (by omega) (by omega) (by omega)];exact ⟨rfl,rfl⟩))
 refine go 1 [] [47,4,3,2] .n ?_
 intro a w hs;refine zCt 3 ?_
 revert a w hs
 refine go 4 [] [7,47,4,3,2] .n ?_
 intro a w hs
 refine zS [.p [] [],.p [] [],.p [1,0] [],.l [2] [0] [11] [],.p [] [],.p [] [],.p [5,4] [],.p [6] [0],.v [7,3] (zI (IntKind.i64.wrap (ea.p0 + r.p0))),.p [] [],.p [9,0] [],.s [10,8] [0] [0] []] [] hs (.c (.s .z) .n) (.c .z .n) (by kernel_rfl) ⟨rfl,rfl,fun _ _ _ _ hm hs K=>zEn hs rfl rfl rfl (vk K),rfl,⟨rfl,by kernel_rfl,fun _=>rfl,rfl,rfl,trivial⟩,fun _=>rfl,?_⟩
 refine goE 0 [] [7,47,4,3,2] .n ?_
 intro a w hs
 refine zS [.p [] [],.p [] [],.p [1,0] [],.l [2] [0] [11] [],.p [] [],.p [] [],.p [5,4] [],.p [6] [0],.v [7,3] (zI (IntKind.i64.wrap (ea.v0 + r.v0))),.p [] [],.p [9,0] [],.s [10,8] [0] [0] []] [] hs (.c (.s (.s .z)) .n) (.c .z .n) (by kernel_rfl) ⟨rfl,rfl,fun _ _ _ _ hm hs K=>zEn hs rfl rfl rfl (vk K),rfl,⟨rfl,by kernel_rfl,fun _=>rfl,rfl,rfl,trivial⟩,fun _=>rfl,?_⟩
 refine goE 2 [] [47,4,3,2] .n ⟨by decide,?_⟩
 intro a w hs;refine zAa ?_
 revert a w hs
 refine go 4 [] [7,47,4,3,2] .n ?_
 intro a w hs
 refine zS [.p [] [],.p [] [],.p [1,0] [],.l [2] [0] [11] [],.p [] [],.p [] [],.p [5,4] [],.p [6] [0],.v [7,3] (zI (IntKind.i64.wrap (ea.p1 + r.p1))),.p [] [],.p [9,0] [],.s [10,8] [0] [0] []] [] hs (.c (.s (.s .z)) .n) (.c .z .n) (by kernel_rfl) ⟨rfl,rfl,fun _ _ _ _ hm hs K=>zEn hs rfl rfl rfl (vk K),rfl,⟨rfl,by kernel_rfl,fun _=>rfl,rfl,rfl,trivial⟩,fun _=>rfl,?_⟩
 refine goE 0 [] [7,47,4,3,2] .n ?_
 intro a w hs
 refine zS [.p [] [],.p [] [],.p [1,0] [],.l [2] [0] [11] [],.p [] [],.p [] [],.p [5,4] [],.p [6] [0],.v [7,3] (zI (IntKind.i64.wrap (ea.v1 + r.v1))),.p [] [],.p [9,0] [],.s [10,8] [0] [0] []] [] hs (.c (.s (.s .z)) .n) (.c .z .n) (by kernel_rfl) ⟨rfl,rfl,fun _ _ _ _ hm hs K=>zEn hs rfl rfl rfl (vk K),rfl,⟨rfl,by kernel_rfl,fun _=>rfl,rfl,rfl,trivial⟩,fun _=>rfl,?_⟩
 refine goE 2 [] [47,4,3,2] .n ⟨by decide,?_⟩
 intro a w hs;refine zAa ?_
 revert a w hs
 refine go 4 [] [7,47,4,3,2] .n ?_
 intro a w hs
 refine zS [.p [] [],.p [] [],.p [1,0] [],.l [2] [0] [11] [],.p [] [],.p [] [],.p [5,4] [],.p [6] [0],.v [7,3] (zI (IntKind.i64.wrap (ea.p2 + r.p2))),.p [] [],.p [9,0] [],.s [10,8] [0] [0] []] [] hs (.c (.s (.s .z)) .n) (.c .z .n) (by kernel_rfl) ⟨rfl,rfl,fun _ _ _ _ hm hs K=>zEn hs rfl rfl rfl (vk K),rfl,⟨rfl,by kernel_rfl,fun _=>rfl,rfl,rfl,trivial⟩,fun _=>rfl,?_⟩
 refine goE 0 [] [7,47,4,3,2] .n ?_
 intro a w hs
 refine zS [.p [] [],.p [] [],.p [1,0] [],.l [2] [0] [11] [],.p [] [],.p [] [],.p [5,4] [],.p [6] [0],.v [7,3] (zI (IntKind.i64.wrap (ea.v2 + r.v2))),.p [] [],.p [9,0] [],.s [10,8] [0] [0] []] [] hs (.c (.s (.s .z)) .n) (.c .z .n) (by kernel_rfl) ⟨rfl,rfl,fun _ _ _ _ hm hs K=>zEn hs rfl rfl rfl (vk K),rfl,⟨rfl,by kernel_rfl,fun _=>rfl,rfl,rfl,trivial⟩,fun _=>rfl,?_⟩
 refine goE 2 [] [47,4,3,2] .n ⟨by decide,?_⟩
 intro a w hs;refine zAa ?_
 revert a w hs
 refine go 6 [0,1] [76,74,4,2] (.c (.s (.s .z)) (.c .z .n)) ⟨rfl,rfl,?_⟩
 intro a w hs;refine zI5 (X:=ea.a) (Y:=r.a) hs rfl rfl rfl rfl rfl ?_
 refine goL 5 [0,0,1] [5,4] (.c .z (.c (.s .z) .n)) ⟨rfl,rfl,rfl,?_⟩
 intro a w hs;exact zBd hs rfl rfl rfl (.s .z) (.z (.c (.c (.c (.c (.c (.c (.c (.c (.c .n)))))))))) isAgg142 sizeOf142 (.c .z (.c .z (.c .z .n))) (by first | (rw [zB7 (by omega)];exact ⟨rfl,rfl⟩) | (rw [zCT (by omega) (by omega)];exact ⟨rfl,rfl⟩) | (rw [zBk (by omega) (by omega) (by omega)];exact ⟨rfl,rfl⟩) | (rw [zBn (by omega) (by omega) (by omega)];exact ⟨rfl,rfl⟩))
end Go.Proofs.YtemnjodhidlfpaaGreat
