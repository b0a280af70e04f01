import Derived.Test.YtajjkegcfmhghaaGreatQG14
import Derived.Test.YtajjkegcfmhghaaGreatQG15
import Derived.Test.YtajjkegcfmhghaaGreatQSxGrams
import Derived.Test.YtajjkegcfmhghaaGreatQSxRecs
import Derived.Test.YtajjkegcfmhghaaGreatQSxBasB
/- Walks of datagrams: what each function does, over the program of this seat. Printed by a program of this session. -/
namespace Go.Proofs.YtajjkegcfmhghaaGreat
open Tryz
open Go Go.Sx Go.RowKit
set_option linter.unusedVariables false
set_option linter.unusedSimpArgs false
set_option maxRecDepth 4000
set_option maxHeartbeats 1000000

theorem zUD (t tm b:Int) (u:Value) (l:List zX) (w0:World) (ht_ : -9223372036854775808 ≤ t ∧ t ≤ 9223372036854775807) (htm_ : -9223372036854775808 ≤ tm ∧ tm ≤ 9223372036854775807) (hb_ : -9223372036854775808 ≤ b ∧ b ≤ 9223372036854775807) (hc:Rd w0 [] u 9 l.length (l.flatMap zDq)):Calls Tryz.prog 58 #[.agg #[.int .i64 t,.int .i64 tm,.int .i64 b,u]] w0 (Ret w0 [] fun x N=>∃ v,x = .tuple #[v,nI (zFC t tm b l.length)] ∧ N = [row v 5 1 (zBg t tm b l.length).length (zC (zBg t tm b l.length))]):=by
 have hce:=hc.le
 simp only [maxLen] at hce
 have hv1:=zC2 (BitVec.ofInt 64 t).toNat
 have hv2:=zC2 (zGf tm).toNat
 have hv3:=zC2 (BitVec.ofInt 64 (t - b)).toNat
 have hv4:=zC2 (BitVec.ofInt 64 (l.length:Int)).toNat
 have hv5:=zC2 (0#64).toNat
 refine zD (F0:=[(0,.agg #[zI t,zI tm,zI b,u])]) func58 rfl rfl rfl (.c .n) (Mem.nil _) ?_
 refine go 7 [0,0] [12,1] .n (fun g1=>⟨rfl,?_⟩)
 intro a w hs;refine zY (b:=decide (t < 0)) (fun c_2=>?_) (fun c_2=>?_)
 ·
  rw [c_2] at hs
  replace c_2:=of_decide_eq_true c_2
  revert a w hs
  refine go 19 [] [3,2] .n ?_
  have hge:zFC t tm b l.length = 3:=by first | exact zDg (by omega) | exact zCH (by omega) (by omega) | exact zDk (by omega) (by omega) (by omega) | exact zHL (by omega) (by omega) (by omega)
  refine cl (·.drop (.c .z .n)) ?_
  refine cl (·.addNil 5 1) ?_
  intro a w hs;replace hs:=hs.rerow .z (m':=(zBg t tm b l.length).length) (xs':=zC (zBg t tm b l.length)) (by rw [zBg,if_pos (by omega)];rfl) (by rw [zBg,if_pos (by omega)];rfl)
  exact zBK hs rfl rfl rfl ⟨_,congrArg (fun z:Nat=>Value.tuple #[.slice none 0 0,zI (z:Int)]) hge.symm,rfl⟩
 rw [c_2] at hs
 replace c_2:=of_decide_eq_false c_2
 revert a w hs
 refine go 5 [0] [17,1] (.c .z .n) ⟨rfl,?_⟩
 intro a w hs;refine zY (b:=decide (4294967295 < t)) (fun c_3=>?_) (fun c_3=>?_)
 ·
  rw [c_3] at hs
  replace c_3:=of_decide_eq_true c_3
  revert a w hs
  refine go 14 [] [3,2] .n ?_
  have hge:zFC t tm b l.length = 3:=by first | exact zDg (by omega) | exact zCH (by omega) (by omega) | exact zDk (by omega) (by omega) (by omega) | exact zHL (by omega) (by omega) (by omega)
  refine cl (·.drop (.c .z .n)) ?_
  refine cl (·.addNil 5 1) ?_
  intro a w hs;replace hs:=hs.rerow .z (m':=(zBg t tm b l.length).length) (xs':=zC (zBg t tm b l.length)) (by rw [zBg,if_pos (by omega)];rfl) (by rw [zBg,if_pos (by omega)];rfl)
  exact zBK hs rfl rfl rfl ⟨_,congrArg (fun z:Nat=>Value.tuple #[.slice none 0 0,zI (z:Int)]) hge.symm,rfl⟩
 rw [c_3] at hs
 replace c_3:=of_decide_eq_false c_3
 revert a w hs
 refine go 2 [0] [19,17,1] (.c .z .n) ⟨rfl,?_⟩
 intro a w hs;refine zF hs rfl rfl rfl ?_
 refine zB (v:=.bool (decide (-2305843009213693952 ≤ tm ∧ tm ≤ 2305843009213693952))) hs (.c rfl .n) call88 (zK3 tm _) rfl ?_
 refine goL 3 [] [23,1] .n ?_
 intro a w hs;refine zY (b:=!(decide (-2305843009213693952 ≤ tm ∧ tm ≤ 2305843009213693952))) (fun c_4=>?_) (fun c_4=>?_)
 ·
  rw [c_4] at hs
  replace c_4:=zF5 c_4
  replace c_4:=of_decide_eq_false c_4
  revert a w hs
  refine go 8 [] [3,2] .n ?_
  have hge:zFC t tm b l.length = 3:=by first | exact zDg (by omega) | exact zCH (by omega) (by omega) | exact zDk (by omega) (by omega) (by omega) | exact zHL (by omega) (by omega) (by omega)
  refine cl (·.drop (.c .z .n)) ?_
  refine cl (·.addNil 5 1) ?_
  intro a w hs;replace hs:=hs.rerow .z (m':=(zBg t tm b l.length).length) (xs':=zC (zBg t tm b l.length)) (by rw [zBg,if_pos (by omega)];rfl) (by rw [zBg,if_pos (by omega)];rfl)
  exact zBK hs rfl rfl rfl ⟨_,congrArg (fun z:Nat=>Value.tuple #[.slice none 0 0,zI (z:Int)]) hge.symm,rfl⟩
 rw [c_4] at hs
 replace c_4:=zGF c_4
 replace c_4:=of_decide_eq_true c_4
 revert a w hs
 refine go 5 [0] [8,1] (.c .z .n) ⟨rfl,?_⟩
 refine ifG rfl (fun c_5=>?_) (fun c_5=>?_)
 ·
  refine go 2 [] [3,2] .n ?_
  have hge:zFC t tm b l.length = 3:=by first | exact zDg (by omega) | exact zCH (by omega) (by omega) | exact zDk (by omega) (by omega) (by omega) | exact zHL (by omega) (by omega) (by omega)
  refine cl (·.drop (.c .z .n)) ?_
  refine cl (·.addNil 5 1) ?_
  intro a w hs;replace hs:=hs.rerow .z (m':=(zBg t tm b l.length).length) (xs':=zC (zBg t tm b l.length)) (by rw [zBg,if_pos (by omega)];rfl) (by rw [zBg,if_pos (by omega)];rfl)
  exact zBK hs rfl rfl rfl ⟨_,congrArg (fun z:Nat=>Value.tuple #[.slice none 0 0,zI (z:Int)]) hge.symm,rfl⟩
 refine go 6 [0,0] [28,1] (.c .z .n) ⟨rfl,rfl,?_⟩
 refine ifG rfl (fun c_6=>?_) (fun c_6=>?_)
 ·
  refine go 2 [] [3,2] .n ?_
  have hge:zFC t tm b l.length = 10:=by first | exact zDg (by omega) | exact zCH (by omega) (by omega) | exact zDk (by omega) (by omega) (by omega) | exact zHL (by omega) (by omega) (by omega)
  refine cl (·.drop (.c .z .n)) ?_
  refine cl (·.addNil 5 1) ?_
  intro a w hs;replace hs:=hs.rerow .z (m':=(zBg t tm b l.length).length) (xs':=zC (zBg t tm b l.length)) (by rw [zBg,if_pos (by omega)];rfl) (by rw [zBg,if_pos (by omega)];rfl)
  exact zBK hs rfl rfl rfl ⟨_,congrArg (fun z:Nat=>Value.tuple #[.slice none 0 0,zI (z:Int)]) hge.symm,rfl⟩
 refine go 2 [0] [36,1] (.c .z .n) ⟨rfl,?_⟩
 intro a w hs;refine zAE hs rfl (hs.rd0 hc).isSl underlying60 rfl ?_
 refine goL 2 [] [34,1] .n ?_
 refine ifG rfl (fun c_7=>?_) (fun c_7=>?_)
 ·
  refine go 2 [] [3,2] .n ?_
  have hge:zFC t tm b l.length = 8:=by first | exact zDg (by omega) | exact zCH (by omega) (by omega) | exact zDk (by omega) (by omega) (by omega) | exact zHL (by omega) (by omega) (by omega)
  refine cl (·.drop (.c .z .n)) ?_
  refine cl (·.addNil 5 1) ?_
  intro a w hs;replace hs:=hs.rerow .z (m':=(zBg t tm b l.length).length) (xs':=zC (zBg t tm b l.length)) (by rw [zBg,if_pos (by omega)];rfl) (by rw [zBg,if_pos (by omega)];rfl)
  exact zBK hs rfl rfl rfl ⟨_,congrArg (fun z:Nat=>Value.tuple #[.slice none 0 0,zI (z:Int)]) hge.symm,rfl⟩
 refine go 4 [0] [41,4,1] (.c .z .n) ⟨rfl,?_⟩
 refine ifG rfl (fun c_8=>?_) (fun c_8=>?_)
 ·
  refine go 5 [0,0] [46,1] (.c .z .n) ⟨rfl,rfl,(by omega),?_⟩
  intro a w hs;refine zAb hs rfl underlying2 underlying167 rfl ?_
  refine goL 3 [] [5,4,1] .n (fun g9=>?_)
  intro a w hs
  refine zAU [.p [] [],.p [0] [0],.v [1] (qI (BitVec.ofInt 64 t)),.p [] [],.p [3] [0],.v [4] (qI (zGf tm)),.p [] [],.p [] [],.p [7] [0],.v [8] (nI l.length),.v [9] (qI (BitVec.ofInt 64 ((l.length:Nat):Int))),.x [10,6,5,2] ⟨[],[],[],fun vs10=>vs10 11 = .slice (some ⟨(zCx (vs10 11)),0,none⟩) 4 4,fun vs10=>[blk (zCx (vs10 11)) [qI (BitVec.ofInt 64 t),qI (zGf tm),qI (BitVec.ofInt 64 (t - b)),qI (BitVec.ofInt 64 ((l.length:Nat):Int))] 167],none⟩,.y [] (zI 4) [] [] [] fun vs10=>[],.p [] []] [12,13] hs .n .n (.c (.s .z) .n) (by kernel_rfl) ⟨rfl,fun _ _ _ _ hm hs K=>zAb hs rfl underlying2 underlying167 rfl (vk K),rfl,fun _ _ _ _ hm hs K=>zB (v:=qI (zGf tm)) hs (.c rfl .n) call89 (zQQ tm _ (by omega)) rfl (vk K),rfl,fun _ _ _ _ hm hs K=>zAE hs rfl (hm.rd0 hc).isSl underlying60 rfl (vk K),fun _ _ _ _ hm hs K=>zAb hs rfl underlying3 underlying167 rfl (vk K),⟨.n,by kernel_rfl,fun _=>rfl,rfl,rfl⟩,⟨?_,?_,trivial⟩,?_⟩
  ·
   intro a_ w_ R_ rest_ vs10 hm hs ht hx
   have hs0:=hs.bare
   refine zIR (cs:=[qI (BitVec.ofInt 64 t),qI (zGf tm),qI (BitVec.ofInt 64 (t - b)),qI (BitVec.ofInt 64 ((l.length:Nat):Int))]) hs (.c (.c (.c (.c .n)))) (.c rfl (.c rfl (.c rfl (.c rfl .n)))) underlying169 (ie:=Tryz.t167) rfl rfl rfl rfl (by decide) (by decide) rfl (by decide) rfl rfl rfl ?_;clear hs;intro g11 a w hs
   exact wpList_nil ⟨rfl,_,_,hs0,(.c (.c (.c (.c .r)))),hs,rfl⟩
  ·
   intro a_ w_ R_ rest_ vs10 hm hs ht hx
   have t11:=ht 11 (zJ 14 _ (by kernel_rfl))
   have e11:_ = some (vs10 11):=t11.val rfl
   rw [show vs10 11 = .slice (some ⟨(zCx (vs10 11)),0,none⟩) 4 4 from t11.2.1] at e11
   replace hs:=hs.learn e11
   have hs0:=hs.bare
   refine zAE hs rfl (zAF (m:=4) (size:=1) (hm.own (List.mem_append.2 (.inr ((ht 11 (zJ 14 _ (by kernel_rfl))).2.2 (zIG (n:=14) (by kernel_rfl)) _ (List.Mem.head _))))) rfl (by decide)).isSl underlying169 rfl ?_;clear hs;intro a w hs
   replace hs:=hs.recell (v':=zI 4) (Option.some.inj rfl)
   exact wpList_nil ⟨rfl,_,_,hs0,(.c .r),hs,rfl⟩
  clear hs w a;intro vs10 a w hs hf
  obtain ⟨e11,q11⟩:=hf 11 (by decide)
  replace e11:_ = some (vs10 11):=e11.val rfl
  rw [show vs10 11 = .slice (some ⟨(zCx (vs10 11)),0,none⟩) 4 4 from q11] at e11
  replace hs:=hs.learn e11;clear e11 q11
  generalize zCx (vs10 11) = g12 at hs
  clear hf
  revert a w hs
  refine goE 0 [] [60,62,61,5] .n ?_
  intro a w hs;refine zCX 4 ?_
  revert a w hs
  refine go 2 [] [60,62,61,5] .n ?_
  intro a w hs;refine zA2 (j:=0) hs rfl rfl (zAF (m:=4) (size:=1) (hs.mem.del (.s (.s .z))) rfl (by decide)) (by decide) (by omega) underlying169 sizeOf167 rfl ?_
  intro a w hs;refine zBr (u:=qI (BitVec.ofInt 64 t)) hs rfl (zAF (m:=4) (size:=1) (hs.mem.del (.s (.s .z))) rfl (by decide)) (by rfl) isAgg167 rfl ?_
  refine goL 3 [] [67,66,60,62,61] .n ?_
  intro a w hs;refine zK hs (.c rfl .n) call90 .n (zES (BitVec.ofInt 64 t) _) rfl ?_;clear hs w a;rintro v13 _ a w rfl hs
  replace hs:=hs.toRow (size:=1) (m:=2) (.s .z) rfl (by decide)
  refine zBD (size:=1) (bytes:=1) hs rfl rfl .z (zO (hs.mem.del (.s .z))) (zAK _) underlying28 (i:=Tryz.t5) rfl rfl rfl rfl rfl (by decide) (by omega) (by simp only [maxLen];omega) rfl ?_;intro v14
  refine goL 3 [] [62,5,60,61] .n ⟨by decide,?_⟩
  intro a w hs;refine zAQ ?_
  revert a w hs
  refine go 2 [] [62,5,60,61] .n ?_
  intro a w hs;refine zA2 (j:=1) hs rfl rfl (zAF (m:=4) (size:=1) (hs.mem.del (.s (.s (.s .z)))) rfl (by decide)) (by decide) (by omega) underlying169 sizeOf167 rfl ?_
  intro a w hs;refine zBr (u:=qI (zGf tm)) hs rfl (zAF (m:=4) (size:=1) (hs.mem.del (.s (.s (.s .z)))) rfl (by decide)) (by rfl) isAgg167 rfl ?_
  refine goL 3 [] [67,66,62,60,61] .n ?_
  intro a w hs;refine zK hs (.c rfl .n) call90 .n (zES (zGf tm) _) rfl ?_;clear hs w a;rintro v15 _ a w rfl hs
  refine zBD (size:=1) (bytes:=1) hs rfl rfl (.s .z) (zO (hs.mem.del .z)) (zAK _) underlying28 (i:=Tryz.t5) rfl rfl rfl rfl rfl (by decide) (by omega) (by simp only [maxLen];omega) rfl ?_;intro v16
  refine goL 3 [] [62,5,60,61] .n ⟨by decide,?_⟩
  intro a w hs;refine zAQ ?_
  revert a w hs
  refine go 2 [] [62,5,60,61] .n ?_
  intro a w hs;refine zA2 (j:=2) hs rfl rfl (zAF (m:=4) (size:=1) (hs.mem.del (.s (.s (.s (.s .z))))) rfl (by decide)) (by decide) (by omega) underlying169 sizeOf167 rfl ?_
  intro a w hs;refine zBr (u:=qI (BitVec.ofInt 64 (t - b))) hs rfl (zAF (m:=4) (size:=1) (hs.mem.del (.s (.s (.s (.s .z))))) rfl (by decide)) (by rfl) isAgg167 rfl ?_
  refine goL 3 [] [67,66,62,60,61] .n ?_
  intro a w hs;refine zK hs (.c rfl .n) call90 .n (zES (BitVec.ofInt 64 (t - b)) _) rfl ?_;clear hs w a;rintro v17 _ a w rfl hs
  refine zBD (size:=1) (bytes:=1) hs rfl rfl (.s .z) (zO (hs.mem.del .z)) (zAK _) underlying28 (i:=Tryz.t5) rfl rfl rfl rfl rfl (by decide) (by omega) (by simp only [maxLen];omega) rfl ?_;intro v18
  refine goL 3 [] [62,5,60,61] .n ⟨by decide,?_⟩
  intro a w hs;refine zAQ ?_
  revert a w hs
  refine go 2 [] [62,5,60,61] .n ?_
  intro a w hs;refine zA2 (j:=3) hs rfl rfl (zAF (m:=4) (size:=1) (hs.mem.del (.s (.s (.s (.s (.s .z)))))) rfl (by decide)) (by decide) (by omega) underlying169 sizeOf167 rfl ?_
  intro a w hs;refine zBr (u:=qI (BitVec.ofInt 64 ((l.length:Nat):Int))) hs rfl (zAF (m:=4) (size:=1) (hs.mem.del (.s (.s (.s (.s (.s .z)))))) rfl (by decide)) (by rfl) isAgg167 rfl ?_
  refine goL 3 [] [67,66,62,60,61] .n ?_
  intro a w hs;refine zK hs (.c rfl .n) call90 .n (zES (BitVec.ofInt 64 ((l.length:Nat):Int)) _) rfl ?_;clear hs w a;rintro v19 _ a w rfl hs
  refine zBD (size:=1) (bytes:=1) hs rfl rfl (.s .z) (zO (hs.mem.del .z)) (zAK _) underlying28 (i:=Tryz.t5) rfl rfl rfl rfl rfl (by decide) (by omega) (by simp only [maxLen];omega) rfl ?_;intro v20
  refine goL 3 [] [62,5,60,61] .n ⟨by decide,?_⟩
  intro a w hs;refine zAQ ?_
  revert a w hs
  refine go 5 [] [3,2] .n ?_
  have hge:zFC t tm b l.length = 0:=by first | exact zDg (by omega) | exact zCH (by omega) (by omega) | exact zDk (by omega) (by omega) (by omega) | exact zHL (by omega) (by omega) (by omega)
  refine cl (·.drop (.c (.s (.s (.s (.s (.s (.s .z)))))) (.c (.s (.s (.s (.s (.s .z))))) (.c (.s (.s (.s (.s .z)))) (.c (.s (.s (.s .z))) (.c (.s (.s .z)) (.c (.s .z) .n))))))) ?_
  intro a w hs;replace hs:=hs.rerow .z (m':=(zBg t tm b l.length).length) (xs':=zC (zBg t tm b l.length)) (by rw [zBg,if_neg (by omega),zBB,zHO];(first | rw [if_pos (by omega)] | rw [if_neg (by omega)]);simp only [List.length_append,List.length_cons,List.length_nil,zBX]) (by rw [zBg,if_neg (by omega),zBB,zHO];(first | rw [if_pos (by omega)] | rw [if_neg (by omega)]);simp [zC,zMF])
  exact zBK hs rfl rfl rfl ⟨_,congrArg (fun z:Nat=>Value.tuple #[v20,zI (z:Int)]) hge.symm,rfl⟩
 refine go 2 [] [5,4,1] .n (fun g21=>?_)
 intro a w hs
 refine zAU [.p [] [],.p [0] [0],.v [1] (qI (BitVec.ofInt 64 t)),.p [] [],.p [3] [0],.v [4] (qI (zGf tm)),.p [] [],.p [] [],.p [7] [0],.v [8] (nI l.length),.v [9] (qI (BitVec.ofInt 64 ((l.length:Nat):Int))),.x [10,6,5,2] ⟨[],[],[],fun vs22=>vs22 11 = .slice (some ⟨(zCx (vs22 11)),0,none⟩) 4 4,fun vs22=>[blk (zCx (vs22 11)) [qI (BitVec.ofInt 64 t),qI (zGf tm),.int .u64 (0),qI (BitVec.ofInt 64 ((l.length:Nat):Int))] 167],none⟩,.y [] (zI 4) [] [] [] fun vs22=>[],.p [] []] [12,13] hs .n .n (.c (.s .z) .n) (by kernel_rfl) ⟨rfl,fun _ _ _ _ hm hs K=>zAb hs rfl underlying2 underlying167 rfl (vk K),rfl,fun _ _ _ _ hm hs K=>zB (v:=qI (zGf tm)) hs (.c rfl .n) call89 (zQQ tm _ (by omega)) rfl (vk K),rfl,fun _ _ _ _ hm hs K=>zAE hs rfl (hm.rd0 hc).isSl underlying60 rfl (vk K),fun _ _ _ _ hm hs K=>zAb hs rfl underlying3 underlying167 rfl (vk K),⟨.n,by kernel_rfl,fun _=>rfl,rfl,rfl⟩,⟨?_,?_,trivial⟩,?_⟩
 ·
  intro a_ w_ R_ rest_ vs22 hm hs ht hx
  have hs0:=hs.bare
  refine zIR (cs:=[qI (BitVec.ofInt 64 t),qI (zGf tm),.int .u64 (0),qI (BitVec.ofInt 64 ((l.length:Nat):Int))]) hs (.c (.c (.c (.c .n)))) (.c rfl (.c rfl (.c rfl (.c rfl .n)))) underlying169 (ie:=Tryz.t167) rfl rfl rfl rfl (by decide) (by decide) rfl (by decide) rfl rfl rfl ?_;clear hs;intro g23 a w hs
  exact wpList_nil ⟨rfl,_,_,hs0,(.c (.c (.c (.c .r)))),hs,rfl⟩
 ·
  intro a_ w_ R_ rest_ vs22 hm hs ht hx
  have t11:=ht 11 (zJ 14 _ (by kernel_rfl))
  have e11:_ = some (vs22 11):=t11.val rfl
  rw [show vs22 11 = .slice (some ⟨(zCx (vs22 11)),0,none⟩) 4 4 from t11.2.1] at e11
  replace hs:=hs.learn e11
  have hs0:=hs.bare
  refine zAE hs rfl (zAF (m:=4) (size:=1) (hm.own (List.mem_append.2 (.inr ((ht 11 (zJ 14 _ (by kernel_rfl))).2.2 (zIG (n:=14) (by kernel_rfl)) _ (List.Mem.head _))))) rfl (by decide)).isSl underlying169 rfl ?_;clear hs;intro a w hs
  replace hs:=hs.recell (v':=zI 4) (Option.some.inj rfl)
  exact wpList_nil ⟨rfl,_,_,hs0,(.c .r),hs,rfl⟩
 clear hs w a;intro vs22 a w hs hf
 obtain ⟨e11,q11⟩:=hf 11 (by decide)
 replace e11:_ = some (vs22 11):=e11.val rfl
 rw [show vs22 11 = .slice (some ⟨(zCx (vs22 11)),0,none⟩) 4 4 from q11] at e11
 replace hs:=hs.learn e11;clear e11 q11
 generalize zCx (vs22 11) = g24 at hs
 clear hf
 revert a w hs
 refine goE 0 [] [60,62,61,5] .n ?_
 intro a w hs;refine zCX 4 ?_
 revert a w hs
 refine go 2 [] [60,62,61,5] .n ?_
 intro a w hs;refine zA2 (j:=0) hs rfl rfl (zAF (m:=4) (size:=1) (hs.mem.del (.s (.s .z))) rfl (by decide)) (by decide) (by omega) underlying169 sizeOf167 rfl ?_
 intro a w hs;refine zBr (u:=qI (BitVec.ofInt 64 t)) hs rfl (zAF (m:=4) (size:=1) (hs.mem.del (.s (.s .z))) rfl (by decide)) (by rfl) isAgg167 rfl ?_
 refine goL 3 [] [67,66,60,62,61] .n ?_
 intro a w hs;refine zK hs (.c rfl .n) call90 .n (zES (BitVec.ofInt 64 t) _) rfl ?_;clear hs w a;rintro v25 _ a w rfl hs
 replace hs:=hs.toRow (size:=1) (m:=2) (.s .z) rfl (by decide)
 refine zBD (size:=1) (bytes:=1) hs rfl rfl .z (zO (hs.mem.del (.s .z))) (zAK _) underlying28 (i:=Tryz.t5) rfl rfl rfl rfl rfl (by decide) (by omega) (by simp only [maxLen];omega) rfl ?_;intro v26
 refine goL 3 [] [62,5,60,61] .n ⟨by decide,?_⟩
 intro a w hs;refine zAQ ?_
 revert a w hs
 refine go 2 [] [62,5,60,61] .n ?_
 intro a w hs;refine zA2 (j:=1) hs rfl rfl (zAF (m:=4) (size:=1) (hs.mem.del (.s (.s (.s .z)))) rfl (by decide)) (by decide) (by omega) underlying169 sizeOf167 rfl ?_
 intro a w hs;refine zBr (u:=qI (zGf tm)) hs rfl (zAF (m:=4) (size:=1) (hs.mem.del (.s (.s (.s .z)))) rfl (by decide)) (by rfl) isAgg167 rfl ?_
 refine goL 3 [] [67,66,62,60,61] .n ?_
 intro a w hs;refine zK hs (.c rfl .n) call90 .n (zES (zGf tm) _) rfl ?_;clear hs w a;rintro v27 _ a w rfl hs
 refine zBD (size:=1) (bytes:=1) hs rfl rfl (.s .z) (zO (hs.mem.del .z)) (zAK _) underlying28 (i:=Tryz.t5) rfl rfl rfl rfl rfl (by decide) (by omega) (by simp only [maxLen];omega) rfl ?_;intro v28
 refine goL 3 [] [62,5,60,61] .n ⟨by decide,?_⟩
 intro a w hs;refine zAQ ?_
 revert a w hs
 refine go 2 [] [62,5,60,61] .n ?_
 intro a w hs;refine zA2 (j:=2) hs rfl rfl (zAF (m:=4) (size:=1) (hs.mem.del (.s (.s (.s (.s .z))))) rfl (by decide)) (by decide) (by omega) underlying169 sizeOf167 rfl ?_
 intro a w hs;refine zBr (u:=.int .u64 (0)) hs rfl (zAF (m:=4) (size:=1) (hs.mem.del (.s (.s (.s (.s .z))))) rfl (by decide)) (by rfl) isAgg167 rfl ?_
 refine goL 3 [] [67,66,62,60,61] .n ?_
 intro a w hs;refine zK hs (.c rfl .n) call90 .n (zES (0#64) _) rfl ?_;clear hs w a;rintro v29 _ a w rfl hs
 refine zBD (size:=1) (bytes:=1) hs rfl rfl (.s .z) (zO (hs.mem.del .z)) (zAK _) underlying28 (i:=Tryz.t5) rfl rfl rfl rfl rfl (by decide) (by omega) (by simp only [maxLen];omega) rfl ?_;intro v30
 refine goL 3 [] [62,5,60,61] .n ⟨by decide,?_⟩
 intro a w hs;refine zAQ ?_
 revert a w hs
 refine go 2 [] [62,5,60,61] .n ?_
 intro a w hs;refine zA2 (j:=3) hs rfl rfl (zAF (m:=4) (size:=1) (hs.mem.del (.s (.s (.s (.s (.s .z)))))) rfl (by decide)) (by decide) (by omega) underlying169 sizeOf167 rfl ?_
 intro a w hs;refine zBr (u:=qI (BitVec.ofInt 64 ((l.length:Nat):Int))) hs rfl (zAF (m:=4) (size:=1) (hs.mem.del (.s (.s (.s (.s (.s .z)))))) rfl (by decide)) (by rfl) isAgg167 rfl ?_
 refine goL 3 [] [67,66,62,60,61] .n ?_
 intro a w hs;refine zK hs (.c rfl .n) call90 .n (zES (BitVec.ofInt 64 ((l.length:Nat):Int)) _) rfl ?_;clear hs w a;rintro v31 _ a w rfl hs
 refine zBD (size:=1) (bytes:=1) hs rfl rfl (.s .z) (zO (hs.mem.del .z)) (zAK _) underlying28 (i:=Tryz.t5) rfl rfl rfl rfl rfl (by decide) (by omega) (by simp only [maxLen];omega) rfl ?_;intro v32
 refine goL 3 [] [62,5,60,61] .n ⟨by decide,?_⟩
 intro a w hs;refine zAQ ?_
 revert a w hs
 refine go 5 [] [3,2] .n ?_
 have hge:zFC t tm b l.length = 0:=by first | exact zDg (by omega) | exact zCH (by omega) (by omega) | exact zDk (by omega) (by omega) (by omega) | exact zHL (by omega) (by omega) (by omega)
 refine cl (·.drop (.c (.s (.s (.s (.s (.s (.s .z)))))) (.c (.s (.s (.s (.s (.s .z))))) (.c (.s (.s (.s (.s .z)))) (.c (.s (.s (.s .z))) (.c (.s (.s .z)) (.c (.s .z) .n))))))) ?_
 intro a w hs;replace hs:=hs.rerow .z (m':=(zBg t tm b l.length).length) (xs':=zC (zBg t tm b l.length)) (by rw [zBg,if_neg (by omega),zBB,zHO];(first | rw [if_pos (by omega)] | rw [if_neg (by omega)]);simp only [List.length_append,List.length_cons,List.length_nil,zBX]) (by rw [zBg,if_neg (by omega),zBB,zHO];(first | rw [if_pos (by omega)] | rw [if_neg (by omega)]);simp [zC,zMF])
 exact zBK hs rfl rfl rfl ⟨_,congrArg (fun z:Nat=>Value.tuple #[v32,zI (z:Int)]) hge.symm,rfl⟩
theorem zNr (t tm b:Int) (u:Value) (l:List zX) (w0:World) (ht_ : -9223372036854775808 ≤ t ∧ t ≤ 9223372036854775807) (htm_ : -9223372036854775808 ≤ tm ∧ tm ≤ 9223372036854775807) (hb_ : -9223372036854775808 ≤ b ∧ b ≤ 9223372036854775807) (hc:Rd w0 [] u 9 l.length (l.flatMap zDq)) (hl:∀ x ∈ l,x.wf):Calls Tryz.prog 34 #[.agg #[.int .i64 t,.int .i64 tm,.int .i64 b,u]] w0 (Ret w0 [] fun x N=>∃ v,x = .tuple #[v,nI (zAV t tm b l)] ∧ N = [row v 5 1 (zDa t tm b l).length (zC (zDa t tm b l))]):=by
 have hce:=hc.le
 simp only [maxLen] at hce
 refine zD (F0:=[(0,.agg #[zI t,zI tm,zI b,u])]) func34 rfl rfl rfl (.c .n) (Mem.nil _) ?_
 refine go 4 [0,0] [12,1] .n (fun g1=>⟨rfl,?_⟩)
 intro a w hs;refine zK hs (.c rfl .n) call58 .n (zUD t tm b _ l _ (by omega) (by omega) (by omega) (hs.rd0 hc)) rfl ?_;clear hs w a;rintro _ _ a w ⟨v2,rfl,rfl⟩ hs
 have hk3:=zGU t tm b l.length
 revert a w hs
 refine goL 7 [] [17,5,4,1] .n ?_
 refine ifG rfl (fun c_4=>?_) (fun c_4=>?_)
 ·
  refine go 3 [] [3,2] .n ?_
  have hbe:zAV t tm b l = zFC t tm b l.length:=by first | exact zCA (by omega) | exact (zCA (by rw [(show zFC t tm b l.length = _ by first | exact zDg (by omega) | exact zCH (by omega) (by omega) | exact zDk (by omega) (by omega) (by omega))];decide)).trans (show zFC t tm b l.length = _ by first | exact zDg (by omega) | exact zCH (by omega) (by omega) | exact zDk (by omega) (by omega) (by omega)) | (rw [zCD (by omega)];exact zG1 (by omega) hI1_1 (by unfold zFW;omega)) | (rw [zCD (by omega)];unfold zCb;rw [← show j = l.length by omega];exact hI1_1)
  refine cl (·.drop (.c (.s .z) (.c .z .n))) ?_
  refine cl (·.addNil 5 1) ?_
  intro a w hs;replace hs:=hs.rerow .z (m':=(zDa t tm b l).length) (xs':=zC (zDa t tm b l)) (by rw [zF6 (by omega)];rfl) (by rw [zF6 (by omega)];rfl)
  exact zBK hs rfl rfl rfl ⟨_,congrArg (fun z:Nat=>Value.tuple #[.slice none 0 0,zI (z:Int)]) hbe.symm,rfl⟩
 have hgp:=zFL (t:=t) (tm:=tm) (b:=b) (m:=l.length) (by omega)
 refine cl (·.rerow .z (m':=(zBB t tm b l.length).length) (xs':=zC (zBB t tm b l.length)) (by rw [zBg,if_neg (by omega)]) (by rw [zBg,if_neg (by omega)])) ?_
 refine go 3 [0] [20,6,4] (.c (.s .z) .n) ⟨rfl,?_⟩
 intro a w hs;refine zAE hs rfl (hs.rd0 hc).isSl underlying60 rfl ?_
 refine goL 1 [] [22,21,20,6,4] .n ?_
 refine cl (·.drop (.c .z .n)) ?_
 intro a w hs;replace hs:=hs.rerow .z (m':=(zBB t tm b l.length).length + (zCg (l.take 0)).1.length) (xs':=zC (zBB t tm b l.length ++ (zCg (l.take 0)).1)) (by show _ = _ + 0;first | rfl | (simp only [zBX,zBB,List.length_append,List.length_cons,List.length_nil];omega)) (by show _ = zC (_ ++ []);rw [List.append_nil])
 refine zCJ (fun mm_ a w=>∃ j:Nat,∃ p:Value,mm_ = l.length - j ∧ St 42 [(4,p),(6,zI ((zCg (l.take j)).2)),(20,u),(21,nI l.length),(22,zI (j:Int))] w0 [] [row p 5 1 ((zBB t tm b l.length).length + (zCg (l.take j)).1.length) (zC (zBB t tm b l.length ++ (zCg (l.take j)).1))] a w ∧ j ≤ l.length ∧ zB8 l j = 0) ⟨0,v2,rfl,hs.sub (.c rfl (.c rfl (.c rfl (.c rfl (.c rfl .n))))),by omega,rfl⟩ ?_
 clear hs w a;rintro mm_ a w ⟨j,p,rfl,hs,hI1_0,hI1_1⟩
 have hll:=zNE hI1_0 hI1_1
 have hrl:=zOG (l.take j)
 have htl:(l.take j).length ≤ j:=by rw [List.length_take];omega
 revert a w hs
 refine go 1 [] [23,4,6,20,21,22] .n ?_
 refine ifG rfl (fun c_5=>?_) (fun c_5=>?_)
 ·
  refine go 0 [] [4,6,20,21,22] .n ?_
  intro a w hs;refine zBh (j:=j) hs rfl rfl (hs.rd0 hc) rfl (by omega) underlying60 sizeOf55 rfl ?_
  intro a w hs;refine zBC (cs:=zDq (l.getD j default)) hs rfl (hs.rd0 hc) (zAi zGB l j (by omega)) (by rw [zAa zGB];omega) (by omega) isAgg55 sizeOf55 rfl ?_
  refine goL 4 [0,0] [28,27,8,4,20,21,22] .n (fun g6=>⟨rfl,rfl,?_⟩)
  intro a w hs;refine zK hs (.c rfl (.c rfl .n)) call59 .n (zUT (l.getD j default) ((zCg (l.take j)).2) _ (zMC hl (by omega)) (by omega)) rfl ?_;clear hs w a;rintro _ _ a w ⟨v7,rfl,rfl⟩ hs
  have hk8:=zIU (l.getD j default) ((zCg (l.take j)).2)
  revert a w hs
  refine goL 7 [] [33,10,9,8,4,20,21,22] .n ?_
  refine ifG rfl (fun c_9=>?_) (fun c_9=>?_)
  ·
   refine go 3 [] [3,2] .n ?_
   have hbe:zAV t tm b l = zA0 (l.getD j default) ((zCg (l.take j)).2):=by first | exact zCA (by omega) | exact (zCA (by rw [(show zFC t tm b l.length = _ by first | exact zDg (by omega) | exact zCH (by omega) (by omega) | exact zDk (by omega) (by omega) (by omega))];decide)).trans (show zFC t tm b l.length = _ by first | exact zDg (by omega) | exact zCH (by omega) (by omega) | exact zDk (by omega) (by omega) (by omega)) | (rw [zCD (by omega)];exact zG1 (by omega) hI1_1 (by unfold zFW;omega)) | (rw [zCD (by omega)];unfold zCb;rw [← show j = l.length by omega];exact hI1_1)
   refine cl (·.drop (.c (.s (.s .z)) (.c (.s .z) (.c .z .n)))) ?_
   refine cl (·.addNil 5 1) ?_
   intro a w hs;replace hs:=hs.rerow .z (m':=(zDa t tm b l).length) (xs':=zC (zDa t tm b l)) (by rw [zF6 (by omega)];rfl) (by rw [zF6 (by omega)];rfl)
   exact zBK hs rfl rfl rfl ⟨_,congrArg (fun z:Nat=>Value.tuple #[.slice none 0 0,zI (z:Int)]) hbe.symm,rfl⟩
  refine go 0 [] [9,8,4,20,21,22] .n ?_
  refine cl (·.sub (F':=[(9,v7),(8,pt g6 0),(4,p),(20,u),(21,nI l.length),(22,zI (j:Int))]) (.c rfl (.c rfl (.c rfl (.c rfl (.c rfl (.c rfl .n))))))) ?_
  intro a w hs
  have hs1:=hs
  replace hs:=hs.sub (F':=[(9,v7),(8,pt g6 0),(20,u),(21,nI l.length),(22,zI (j:Int))]) (.c rfl (.c rfl (.c rfl (.c rfl (.c rfl .n)))))
  refine zR0 (M0:=[row v7 5 1 ((zCf (l.getD j default) ((zCg (l.take j)).2)).length) (zC (zCf (l.getD j default) ((zCg (l.take j)).2))),blk g6 [zI ((l.getD j default).k),zI ((l.getD j default).id),zI ((l.getD j default).p0),zI ((l.getD j default).p1),zI ((l.getD j default).p2),zI ((l.getD j default).v0),zI ((l.getD j default).v1),zI ((l.getD j default).v2),.int .u16 ((((l.getD j default).a).toNat:Nat):Int)] 55]) (Ds:=[Pv 0 p,Pv 1 v7,⟨[row p 5 1 ((zBB t tm b l.length).length + (zCg (l.take j)).1.length) (zC (zBB t tm b l.length ++ (zCg (l.take j)).1))],[],[],fun vs10=>True,fun vs10=>[row (vs10 2) 5 1 (((zBB t tm b l.length).length + (zCg (l.take j)).1.length) + ((zCf (l.getD j default) ((zCg (l.take j)).2)).length)) ((zC (zBB t tm b l.length ++ (zCg (l.take j)).1)) ++ (zC (zCf (l.getD j default) ((zCg (l.take j)).2))))],none⟩,Pv 3 (pt g6 1),Pv 4 (zI ((l.getD j default).id)),⟨[],[],[2],fun vs10=>vs10 5 = (vs10 2),fun vs10=>[],some (p)⟩,Pv 6 (zI ((l.getD j default).id))]) (by kernel_rfl) hs rfl (.c (.s (.s .z)) .n) (by kernel_rfl) (by kernel_rfl) ?_ (zWs.get (.z rfl (.z rfl (.z rfl (.z rfl (.z rfl (.s rfl rfl rfl (.z rfl .n))))))) hs1) ?_
  all_goals clear hs1
  ·
   refine (.c ?_ (.c ?_ (.c ?_ (.c ?_ (.c ?_ (.c ?_ (.c ?_ .n)))))))
   · exact zAn (m:=7) (.o (j:=5) (by kernel_rfl) rfl rfl .n) (fun hm0 hm hx=>.n) (by kernel_rfl) (by kernel_rfl) rfl
   · exact zAn (m:=7) .n (fun hm0 hm hx=>.n) (by kernel_rfl) (by kernel_rfl) rfl
   ·
    intro a_ w_ R_ rest_ vs10 hm hs ht hx
    replace hs:St _ _ _ (zL [row p 5 1 ((zBB t tm b l.length).length + (zCg (l.take j)).1.length) (zC (zBB t tm b l.length ++ (zCg (l.take j)).1))]) [row p 5 1 ((zBB t tm b l.length).length + (zCg (l.take j)).1.length) (zC (zBB t tm b l.length ++ (zCg (l.take j)).1))] _ _:=hs
    have hm0:=hm.mid
    replace hs:=hs.lrn (ht 0 (zJ 7 _ (by kernel_rfl))) rfl rfl
    replace hs:=hs.lrn (ht 1 (zJ 7 _ (by kernel_rfl))) rfl rfl
    have hs0:=hs.bare
    refine zBD (size:=1) (bytes:=1) hs rfl rfl .z (zO (hm0.del .z)) (zAK _) underlying28 (i:=Tryz.t5) rfl rfl rfl rfl rfl (by decide) (by omega) (by simp only [maxLen];omega) rfl ?_;clear hs;intro v11 a w hs
    exact wpList_nil ⟨rfl,_,_,hs0,(.c (.c .r)),hs,trivial⟩
   · exact zAn (m:=7) .n (fun hm0 hm hx=>.n) (by kernel_rfl) (by kernel_rfl) rfl
   · exact zAn (m:=7) (.c (k:=3) (by kernel_rfl) rfl rfl .n) (fun hm0 hm hx=>(.c (hm0.del (.s .z)))) (by kernel_rfl) (by kernel_rfl) rfl
   ·
    intro a_ w_ R_ rest_ vs10 hm hs ht hx
    have hm0:=hm.mid
    have t2:=ht 2 (zJ 7 _ (by kernel_rfl))
    have e2:_ = some (vs10 2):=t2.val rfl
    replace hs:=hs.learn e2
    have hs0:=hs.bare
    refine zEZ hs rfl rfl ?_;clear hs;intro a w hs
    exact wpList_nil ⟨rfl,_,_,hs0,(.c .r),hs,rfl⟩
   exact zAn (m:=7) (.c (k:=4) (by kernel_rfl) rfl rfl .n) (fun hm0 hm hx=>.n) (by kernel_rfl) (by kernel_rfl) rfl
  clear hs w a;intro a w vs10 hs hf
  replace hs:St _ _ _ _ [row v7 5 1 ((zCf (l.getD j default) ((zCg (l.take j)).2)).length) (zC (zCf (l.getD j default) ((zCg (l.take j)).2))),blk g6 [zI ((l.getD j default).k),zI ((l.getD j default).id),zI ((l.getD j default).p0),zI ((l.getD j default).p1),zI ((l.getD j default).p2),zI ((l.getD j default).v0),zI ((l.getD j default).v1),zI ((l.getD j default).v2),.int .u16 ((((l.getD j default).a).toNat:Nat):Int)] 55,row (vs10 2) 5 1 (((zBB t tm b l.length).length + (zCg (l.take j)).1.length) + ((zCf (l.getD j default) ((zCg (l.take j)).2)).length)) ((zC (zBB t tm b l.length ++ (zCg (l.take j)).1)) ++ (zC (zCf (l.getD j default) ((zCg (l.take j)).2))))] _ _:=hs
  obtain ⟨e5,q5⟩:=hf 5 (by decide)
  replace e5:_ = some (vs10 5):=e5.val rfl
  rw [show vs10 5 = (vs10 2) from q5] at e5
  replace hs:=hs.learn e5;clear e5 q5
  obtain ⟨e6,q6⟩:=hf 6 (by decide)
  replace e6:_ = some (vs10 6):=e6.val rfl
  rw [show vs10 6 = zI ((l.getD j default).id) from q6] at e6
  replace hs:=hs.learn e6;clear e6 q6
  generalize vs10 2 = v12 at hs
  clear hf
  revert a w hs
  refine goE 2 [] [22,6,4,20,21] .n ⟨(by omega),?_⟩
  have he0:zFW l j = 0:=by unfold zFW;omega
  intro a w hs;replace hs:=hs.rerow (.s (.s .z)) (m':=(zBB t tm b l.length).length + (zCg (l.take (j + 1))).1.length) (xs':=zC (zBB t tm b l.length ++ (zCg (l.take (j + 1))).1)) (by rw [zCm (by omega)];simp only [List.length_append];omega) (by rw [zCm (by omega)];simp [zC])
  replace hs:=hs.reslot (d:=6) (v:=zI ((l.getD j default).id)) (v':=zI ((zCg (l.take (j + 1))).2)) rfl (Option.some.inj (by rw [zCm (by omega)]))
  replace hs:=hs.drop (.c (.s (.s .z)) (.c (.s .z) .n))
  refine ⟨_,?_,j + 1,v12,rfl,hs.sub (.c rfl (.c rfl (.c rfl (.c rfl (.c rfl .n))))),by omega,zQN hI1_1 he0⟩
  omega
 refine go 3 [] [3,2] .n ?_
 have hbe:zAV t tm b l = 0:=by first | exact zCA (by omega) | exact (zCA (by rw [(show zFC t tm b l.length = _ by first | exact zDg (by omega) | exact zCH (by omega) (by omega) | exact zDk (by omega) (by omega) (by omega))];decide)).trans (show zFC t tm b l.length = _ by first | exact zDg (by omega) | exact zCH (by omega) (by omega) | exact zDk (by omega) (by omega) (by omega)) | (rw [zCD (by omega)];exact zG1 (by omega) hI1_1 (by unfold zFW;omega)) | (rw [zCD (by omega)];unfold zCb;rw [← show j = l.length by omega];exact hI1_1)
 have hta:l.take j = l:=List.take_of_length_le (by omega)
 intro a w hs;replace hs:=hs.rerow .z (m':=(zDa t tm b l).length) (xs':=zC (zDa t tm b l)) (by rw [zJ3 hbe,hta];simp only [List.length_append]) (by rw [zJ3 hbe,hta])
 exact zBK hs rfl rfl rfl ⟨_,congrArg (fun z:Nat=>Value.tuple #[p,zI (z:Int)]) hbe.symm,rfl⟩
theorem zLH (t tm b:Int) (u:Value) (l:List zX) (w0:World) (ht_ : -9223372036854775808 ≤ t ∧ t ≤ 9223372036854775807) (htm_ : -9223372036854775808 ≤ tm ∧ tm ≤ 9223372036854775807) (hb_ : -9223372036854775808 ≤ b ∧ b ≤ 9223372036854775807) (hc:Rd w0 [] u 9 l.length (l.flatMap zDq)) (hl:∀ x ∈ l,x.wf):Calls Tryz.prog 15 #[.agg #[.int .i64 t,.int .i64 tm,.int .i64 b,u]] w0 (Ret w0 [] fun x N=>∃ v,x = .tuple #[v,nI (zFi t tm b l)] ∧ N = [row v 5 1 (gwB t tm b l).length (zC (gwB t tm b l))]):=by
 have hce:=hc.le
 simp only [maxLen] at hce
 refine zD (F0:=[(0,.agg #[zI t,zI tm,zI b,u])]) func15 rfl rfl rfl (.c .n) (Mem.nil _) ?_
 refine go 4 [0,0] [7] .n (fun g1=>⟨rfl,?_⟩)
 intro a w hs;refine zK hs (.c rfl .n) call34 .n (zNr t tm b _ l _ (by omega) (by omega) (by omega) (hs.rd0 hc) hl) rfl ?_;clear hs w a;rintro _ _ a w ⟨v2,rfl,rfl⟩ hs
 have hk3:=zHI t tm b l
 revert a w hs
 refine goL 8 [] [11,5,4] .n ?_
 refine ifG rfl (fun c_4=>?_) (fun c_4=>?_)
 ·
  refine go 3 [] [3,2] .n ?_
  have hwe:zFi t tm b l = zAV t tm b l:=by unfold zFi;(repeat' split) <;> omega
  refine cl (·.drop (.c (.s .z) (.c .z .n))) ?_
  refine cl (·.addNil 5 1) ?_
  intro a w hs;replace hs:=hs.rerow .z (m':=(gwB t tm b l).length) (xs':=zC (gwB t tm b l)) (by rw [gwB,if_pos (by omega)];rfl) (by rw [gwB,if_pos (by omega)];rfl)
  exact zBK hs rfl rfl rfl ⟨_,congrArg (fun z:Nat=>Value.tuple #[.slice none 0 0,zI (z:Int)]) hwe.symm,rfl⟩
 refine go 1 [] [16,4] .n ?_
 intro a w hs;refine zAE hs rfl (zO (hs.mem.del .z)).isSl underlying28 rfl ?_
 refine goL 2 [] [15,4] .n ?_
 refine ifG rfl (fun c_5=>?_) (fun c_5=>?_)
 ·
  refine go 2 [] [3,2] .n ?_
  have hwe:zFi t tm b l = 8:=by unfold zFi;(repeat' split) <;> omega
  refine cl (·.drop (.c (.s .z) (.c .z .n))) ?_
  refine cl (·.addNil 5 1) ?_
  intro a w hs;replace hs:=hs.rerow .z (m':=(gwB t tm b l).length) (xs':=zC (gwB t tm b l)) (by rw [gwB,if_pos (by omega)];rfl) (by rw [gwB,if_pos (by omega)];rfl)
  exact zBK hs rfl rfl rfl ⟨_,congrArg (fun z:Nat=>Value.tuple #[.slice none 0 0,zI (z:Int)]) hwe.symm,rfl⟩
 refine go 1 [] [19] .n ?_
 intro a w hs;refine zK hs (.c rfl .n) call35 .n (zYR _ _ (zDa t tm b l) _ (zO (hs.mem.del .z)) (by omega)) rfl ?_;clear hs w a;rintro v6 _ a w rfl hs
 revert a w hs
 refine goL 2 [] [3,2] .n ?_
 have hwe:zFi t tm b l = 0:=by unfold zFi;(repeat' split) <;> omega
 refine cl (·.drop (.c (.s (.s .z)) (.c (.s .z) .n))) ?_
 refine cl (·.rerow .z (m':=(gwB t tm b l).length) (xs':=zC (gwB t tm b l)) (by rw [gwB,if_neg (by omega),zEC]) (by rw [gwB,if_neg (by omega)])) ?_
 intro a w hs;exact zBK hs rfl rfl rfl ⟨_,congrArg (fun z:Nat=>Value.tuple #[v6,zI (z:Int)]) hwe.symm,rfl⟩
theorem zRT (t tm b:Int) (u:Value) (l:List zX) (w0:World) (ht_ : -9223372036854775808 ≤ t ∧ t ≤ 9223372036854775807) (htm_ : -9223372036854775808 ≤ tm ∧ tm ≤ 9223372036854775807) (hb_ : -9223372036854775808 ≤ b ∧ b ≤ 9223372036854775807) (hc:Rd w0 [] u 9 l.length (l.flatMap zDq)) (hl:∀ x ∈ l,x.wf):Calls Tryz.prog 145 #[.agg #[.int .i64 t,.int .i64 tm,.int .i64 b,u]] w0 (zAe w0 (nI (zAV t tm b l))):=by
 have hce:=hc.le
 simp only [maxLen] at hce
 refine zD (F0:=[(0,.agg #[zI t,zI tm,zI b,u])]) func145 rfl rfl rfl (.c .n) (Mem.nil _) ?_
 refine go 3 [0,0] [6] .n (fun g1=>⟨rfl,?_⟩)
 intro a w hs;refine zK hs (.c rfl .n) call34 .n (zNr t tm b _ l _ (by omega) (by omega) (by omega) (hs.rd0 hc) hl) rfl ?_;clear hs w a;rintro _ _ a w ⟨v2,rfl,rfl⟩ hs
 have hk3:=zHI t tm b l
 revert a w hs
 refine goL 7 [] [2] .n ?_
 refine cl (·.drop (.c (.s .z) (.c .z .n))) ?_
 intro a w hs;exact fin hs rfl rfl ⟨rfl,rfl⟩
end Go.Proofs.YtajjkegcfmhghaaGreat
/- Walks of what is others with an entity: what each function does, over the program of this seat. Printed by a program of this session. -/
namespace Go.Proofs.YtajjkegcfmhghaaGreat
open Tryz
open Go Go.Sx Go.RowKit
set_option linter.unusedVariables false
set_option linter.unusedSimpArgs false
set_option maxRecDepth 4000
set_option maxHeartbeats 1000000

theorem zXO (ea eb:zS) (w0:World):Calls Tryz.prog 114 #[.agg #[zI ea.id,zI ea.p0,zI ea.p1,zI ea.p2,zI ea.v0,zI ea.v1,zI ea.v2,.int .u16 (((ea.a).toNat:Nat):Int),bI ea.g],.agg #[zI eb.id,zI eb.p0,zI eb.p1,zI eb.p2,zI eb.v0,zI eb.v1,zI eb.v2,.int .u16 (((eb.a).toNat:Nat):Int),bI eb.g]] w0 (zAe w0 (.tuple #[.agg #[zI (((zAD ea eb).1).k),zI (((zAD ea eb).1).id),zI (((zAD ea eb).1).p0),zI (((zAD ea eb).1).p1),zI (((zAD ea eb).1).p2),zI (((zAD ea eb).1).v0),zI (((zAD ea eb).1).v1),zI (((zAD ea eb).1).v2),.int .u16 (((((zAD ea eb).1).a).toNat:Nat):Int)],.bool (zAD ea eb).2])):=by
 refine zD (F0:=[(0,.agg #[zI ea.id,zI ea.p0,zI ea.p1,zI ea.p2,zI ea.v0,zI ea.v1,zI ea.v2,.int .u16 (((ea.a).toNat:Nat):Int),bI ea.g]),(1,.agg #[zI eb.id,zI eb.p0,zI eb.p1,zI eb.p2,zI eb.v0,zI eb.v1,zI eb.v2,.int .u16 (((eb.a).toNat:Nat):Int),bI eb.g])]) func114 rfl rfl rfl (.c (.c .n)) (Mem.nil _) ?_
 refine goF 14 7 [0,0,2,1] [13,4,3,2] .n (fun g1=>fun g2=>fun g3=>⟨rfl,rfl,by kernel_rfl,?_⟩)
 refine cl (·.recell (v':=.bool (zI2 ea eb)) (Option.some.inj rfl)) ?_
 refine go 0 [] [13,4,3,2] .n ?_
 refine ifG rfl (fun c_4=>?_) (fun c_4=>?_)
 ·
  refine go 3 [0] [5,4] (.c .z .n) ⟨rfl,?_⟩
  intro a w hs;exact zBJ hs rfl rfl rfl .z (.z (.c (.c (.c (.c (.c (.c (.c (.c (.c .n)))))))))) isAgg55 sizeOf55 (.c .z (.c .z (.c .z .n))) (by first | (rw [zFB (by assumption)];exact ⟨rfl,rfl⟩) | (rw [zDJ (by assumption) (by omega)];exact ⟨rfl,rfl⟩) | (rw [zDO (by assumption) (by omega)];exact ⟨rfl,rfl⟩))
 refine go 16 [0,0,0,0,0,2,1] [28,6,4,2] (.c (.s .z) (.c (.s .z) .n)) ⟨rfl,rfl,rfl,rfl,fun g5=>⟨rfl,rfl,rfl,?_⟩⟩
 refine ifG rfl (fun c_6=>?_) (fun c_6=>?_)
 ·
  refine go 9 [0,1,1,0] [7,6,4,2] (.c .z (.c (.s .z) .n)) ⟨rfl,rfl,rfl,fun g7=>⟨rfl,?_⟩⟩
  intro a w hs;refine zB (v:=.agg #[pt g7 2,pt g7 3,pt g7 4,pt g7 5,pt g7 6,pt g7 7]) hs (.c rfl .n) call159 (zIX g7 _) rfl ?_
  refine goL 2 [0] [8,6,4,2] .n (fun g8=>⟨rfl,?_⟩)
  intro a w hs;refine zB (v:=.agg #[pt g5 2,pt g5 3,pt g5 4,pt g5 5,pt g5 6,pt g5 7]) hs (.c rfl .n) call159 (zIX g5 _) rfl ?_
  refine goL 1 [] [37,36,8,6,4,2] .n ?_
  intro a w hs;refine zCX 6 ?_
  revert a w hs
  refine go 6 [] [10,9,37,36,8,6,4,2] .n ?_
  intro a w hs
  refine zR [.p [] [],.p [0] [],.l [1] [0] [10] [],.p [] [],.p [3] [],.p [4] [0],.p [5] [],.p [6] [1],.v [7,2] (zI (IntKind.i64.wrap (eb.p0 - ea.p0))),.p [0] [],.s [9,8] [0] [0] []] [] hs (.c (.s (.s .z)) .n) (.c .z (.c .z .n)) (by kernel_rfl) ⟨rfl,rfl,rfl,fun _ _ _ _ hm hs K=>zE4 hs rfl rfl rfl (vk K),rfl,⟨rfl,by kernel_rfl,fun _=>rfl,rfl,rfl,trivial⟩,fun _=>rfl,?_⟩
  refine goE 2 [] [37,36,8,6,4,2] .n ⟨by decide,?_⟩
  intro a w hs;refine zAQ ?_
  revert a w hs
  refine go 6 [] [10,9,37,36,8,6,4,2] .n ?_
  intro a w hs
  refine zR [.p [] [],.p [0] [],.l [1] [0] [10] [],.p [] [],.p [3] [],.p [4] [0],.p [5] [],.p [6] [1],.v [7,2] (zI (IntKind.i64.wrap (eb.p1 - ea.p1))),.p [0] [],.s [9,8] [0] [0] []] [] hs (.c (.s (.s (.s (.s (.s .z))))) .n) (.c .z (.c .z .n)) (by kernel_rfl) ⟨rfl,rfl,rfl,fun _ _ _ _ hm hs K=>zE4 hs rfl rfl rfl (vk K),rfl,⟨rfl,by kernel_rfl,fun _=>rfl,rfl,rfl,trivial⟩,fun _=>rfl,?_⟩
  refine goE 2 [] [37,36,8,6,4,2] .n ⟨by decide,?_⟩
  intro a w hs;refine zAQ ?_
  revert a w hs
  refine go 6 [] [10,9,37,36,8,6,4,2] .n ?_
  intro a w hs
  refine zR [.p [] [],.p [0] [],.l [1] [0] [10] [],.p [] [],.p [3] [],.p [4] [0],.p [5] [],.p [6] [1],.v [7,2] (zI (IntKind.i64.wrap (eb.p2 - ea.p2))),.p [0] [],.s [9,8] [0] [0] []] [] hs (.c (.s (.s (.s (.s (.s .z))))) .n) (.c .z (.c .z .n)) (by kernel_rfl) ⟨rfl,rfl,rfl,fun _ _ _ _ hm hs K=>zE4 hs rfl rfl rfl (vk K),rfl,⟨rfl,by kernel_rfl,fun _=>rfl,rfl,rfl,trivial⟩,fun _=>rfl,?_⟩
  refine goE 2 [] [37,36,8,6,4,2] .n ⟨by decide,?_⟩
  intro a w hs;refine zAQ ?_
  revert a w hs
  refine go 6 [] [10,9,37,36,8,6,4,2] .n ?_
  intro a w hs
  refine zR [.p [] [],.p [0] [],.l [1] [0] [10] [],.p [] [],.p [3] [],.p [4] [0],.p [5] [],.p [6] [1],.v [7,2] (zI (IntKind.i64.wrap (eb.v0 - ea.v0))),.p [0] [],.s [9,8] [0] [0] []] [] hs (.c (.s (.s (.s (.s (.s .z))))) .n) (.c .z (.c .z .n)) (by kernel_rfl) ⟨rfl,rfl,rfl,fun _ _ _ _ hm hs K=>zE4 hs rfl rfl rfl (vk K),rfl,⟨rfl,by kernel_rfl,fun _=>rfl,rfl,rfl,trivial⟩,fun _=>rfl,?_⟩
  refine goE 2 [] [37,36,8,6,4,2] .n ⟨by decide,?_⟩
  intro a w hs;refine zAQ ?_
  revert a w hs
  refine go 6 [] [10,9,37,36,8,6,4,2] .n ?_
  intro a w hs
  refine zR [.p [] [],.p [0] [],.l [1] [0] [10] [],.p [] [],.p [3] [],.p [4] [0],.p [5] [],.p [6] [1],.v [7,2] (zI (IntKind.i64.wrap (eb.v1 - ea.v1))),.p [0] [],.s [9,8] [0] [0] []] [] hs (.c (.s (.s (.s (.s (.s .z))))) .n) (.c .z (.c .z .n)) (by kernel_rfl) ⟨rfl,rfl,rfl,fun _ _ _ _ hm hs K=>zE4 hs rfl rfl rfl (vk K),rfl,⟨rfl,by kernel_rfl,fun _=>rfl,rfl,rfl,trivial⟩,fun _=>rfl,?_⟩
  refine goE 2 [] [37,36,8,6,4,2] .n ⟨by decide,?_⟩
  intro a w hs;refine zAQ ?_
  revert a w hs
  refine go 6 [] [10,9,37,36,8,6,4,2] .n ?_
  intro a w hs
  refine zR [.p [] [],.p [0] [],.l [1] [0] [10] [],.p [] [],.p [3] [],.p [4] [0],.p [5] [],.p [6] [1],.v [7,2] (zI (IntKind.i64.wrap (eb.v2 - ea.v2))),.p [0] [],.s [9,8] [0] [0] []] [] hs (.c (.s (.s (.s (.s (.s .z))))) .n) (.c .z (.c .z .n)) (by kernel_rfl) ⟨rfl,rfl,rfl,fun _ _ _ _ hm hs K=>zE4 hs rfl rfl rfl (vk K),rfl,⟨rfl,by kernel_rfl,fun _=>rfl,rfl,rfl,trivial⟩,fun _=>rfl,?_⟩
  refine goE 2 [] [37,36,8,6,4,2] .n ⟨by decide,?_⟩
  intro a w hs;refine zAQ ?_
  revert a w hs
  refine go 6 [0,1] [55,53,6,4] (.c (.s (.s (.s (.s (.s .z))))) (.c (.s (.s .z)) .n)) ⟨rfl,rfl,?_⟩
  intro a w hs;refine zJI (X:=eb.a) (Y:=ea.a) hs rfl rfl rfl rfl rfl ?_
  refine goL 5 [0,0,1] [5,4] (.c .z (.c (.s (.s (.s (.s .z)))) .n)) ⟨rfl,rfl,rfl,?_⟩
  intro a w hs;exact zBJ hs rfl rfl rfl (.s .z) (.z (.c (.c (.c (.c (.c (.c (.c (.c (.c .n)))))))))) isAgg55 sizeOf55 (.c .z (.c .z (.c .z (.c .z (.c .z (.c .z .n)))))) (by first | (rw [zFB (by assumption)];exact ⟨rfl,rfl⟩) | (rw [zDJ (by assumption) (by omega)];exact ⟨rfl,rfl⟩) | (rw [zDO (by assumption) (by omega)];exact ⟨rfl,rfl⟩))
 refine go 3 [0,1] [5,4] (.c .z (.c (.s (.s .z)) .n)) ⟨rfl,rfl,?_⟩
 intro a w hs;exact zBJ hs rfl rfl rfl (.s .z) (.z (.c (.c (.c (.c (.c (.c (.c (.c (.c .n)))))))))) isAgg55 sizeOf55 (.c .z (.c .z (.c .z (.c .z .n)))) (by first | (rw [zFB (by assumption)];exact ⟨rfl,rfl⟩) | (rw [zDJ (by assumption) (by omega)];exact ⟨rfl,rfl⟩) | (rw [zDO (by assumption) (by omega)];exact ⟨rfl,rfl⟩))
theorem zU6 (ea:zS) (r:zX) (w0:World):Calls Tryz.prog 147 #[.agg #[zI ea.id,zI ea.p0,zI ea.p1,zI ea.p2,zI ea.v0,zI ea.v1,zI ea.v2,.int .u16 (((ea.a).toNat:Nat):Int),bI ea.g],.agg #[zI r.k,zI r.id,zI r.p0,zI r.p1,zI r.p2,zI r.v0,zI r.v1,zI r.v2,.int .u16 (((r.a).toNat:Nat):Int)]] w0 (zAe w0 (.tuple #[.agg #[zI (((zT ea r).1).id),zI (((zT ea r).1).p0),zI (((zT ea r).1).p1),zI (((zT ea r).1).p2),zI (((zT ea r).1).v0),zI (((zT ea r).1).v1),zI (((zT ea r).1).v2),.int .u16 (((((zT ea r).1).a).toNat:Nat):Int),bI (((zT ea r).1).g)],nI ((zT ea r).2)])):=by
 refine zD (F0:=[(0,.agg #[zI ea.id,zI ea.p0,zI ea.p1,zI ea.p2,zI ea.v0,zI ea.v1,zI ea.v2,.int .u16 (((ea.a).toNat:Nat):Int),bI ea.g]),(1,.agg #[zI r.k,zI r.id,zI r.p0,zI r.p1,zI r.p2,zI r.v0,zI r.v1,zI r.v2,.int .u16 (((r.a).toNat:Nat):Int)])]) func147 rfl rfl rfl (.c (.c .n)) (Mem.nil _) ?_
 refine go 5 [0,0,1] [8,4,3,2] .n (fun g1=>fun g2=>fun g3=>⟨rfl,?_⟩)
 intro a w hs;refine zB (v:=nI (zAJ r)) hs (.c rfl .n) call91 (zWj r _) rfl ?_
 refine goL 3 [] [11,6,4,3,2] .n ?_
 refine ifG rfl (fun c_4=>?_) (fun c_4=>?_)
 ·
  refine go 4 [0] [5,4] (.c .z .n) ⟨rfl,?_⟩
  intro a w hs;exact zBJ hs rfl rfl rfl .z (.z (.c (.c (.c (.c (.c (.c (.c (.c (.c .n)))))))))) isAgg48 sizeOf48 (.c .z (.c .z (.c .z .n))) (by first | (rw [zB9 (by omega)];exact ⟨rfl,rfl⟩) | (rw [zCY (by omega) (by omega)];exact ⟨rfl,rfl⟩) | (rw [zBP (by omega) (by omega) (by omega)];exact ⟨rfl,rfl⟩) | (rw [zBR (by omega) (by omega) (by omega)];exact ⟨rfl,rfl⟩))
 refine go 6 [0,1] [20,4,3,2] (.c (.s .z) (.c (.s .z) .n)) ⟨rfl,rfl,?_⟩
 intro a w hs;refine zY (b:=!((r.id:Int) == ea.id)) (fun c_5=>?_) (fun c_5=>?_)
 ·
  rw [c_5] at hs
  replace c_5:=zF5 c_5
  replace c_5:=zAW c_5
  revert a w hs
  refine go 14 [0] [5,4] (.c (.s (.s .z)) .n) ⟨rfl,?_⟩
  intro a w hs;exact zBJ hs rfl rfl rfl .z (.z (.c (.c (.c (.c (.c (.c (.c (.c (.c .n)))))))))) isAgg48 sizeOf48 (.c .z (.c .z (.c .z .n))) (by first | (rw [zB9 (by omega)];exact ⟨rfl,rfl⟩) | (rw [zCY (by omega) (by omega)];exact ⟨rfl,rfl⟩) | (rw [zBP (by omega) (by omega) (by omega)];exact ⟨rfl,rfl⟩) | (rw [zBR (by omega) (by omega) (by omega)];exact ⟨rfl,rfl⟩))
 rw [c_5] at hs
 replace c_5:=zGF c_5
 replace c_5:=eq_of_beq c_5
 revert a w hs
 refine go 5 [0] [25,4,3,2] (.c .z .n) ⟨rfl,?_⟩
 intro a w hs;refine zY (b:=(r.k:Int) == 0) (fun c_6=>?_) (fun c_6=>?_)
 ·
  rw [c_6] at hs
  replace c_6:=eq_of_beq c_6
  revert a w hs
  refine go 9 [0] [5,4] (.c (.s (.s .z)) .n) ⟨rfl,?_⟩
  intro a w hs;exact zBJ hs rfl rfl rfl .z (.z (.c (.c (.c (.c (.c (.c (.c (.c (.c .n)))))))))) isAgg48 sizeOf48 (.c .z (.c .z (.c .z .n))) (by first | (rw [zB9 (by omega)];exact ⟨rfl,rfl⟩) | (rw [zCY (by omega) (by omega)];exact ⟨rfl,rfl⟩) | (rw [zBP (by omega) (by omega) (by omega)];exact ⟨rfl,rfl⟩) | (rw [zBR (by omega) (by omega) (by omega)];exact ⟨rfl,rfl⟩))
 rw [c_6] at hs
 replace c_6:=zAW c_6
 revert a w hs
 refine go 5 [0] [14,4,3,2] (.c .z .n) ⟨rfl,?_⟩
 refine ifG rfl (fun c_7=>?_) (fun c_7=>?_)
 ·
  refine go 3 [0] [5,4] (.c (.s (.s .z)) .n) ⟨rfl,?_⟩
  intro a w hs;exact zBJ hs rfl rfl rfl .z (.z (.c (.c (.c (.c (.c (.c (.c (.c (.c .n)))))))))) isAgg48 sizeOf48 (.c .z (.c .z (.c .z .n))) (by first | (rw [zB9 (by omega)];exact ⟨rfl,rfl⟩) | (rw [zCY (by omega) (by omega)];exact ⟨rfl,rfl⟩) | (rw [zBP (by omega) (by omega) (by omega)];exact ⟨rfl,rfl⟩) | (rw [zBR (by omega) (by omega) (by omega)];exact ⟨rfl,rfl⟩))
 refine go 4 [0] [31,4,3,2] (.c .z .n) ⟨rfl,?_⟩
 refine ifG rfl (fun c_8=>?_) (fun c_8=>?_)
 ·
  refine go 10 [0,1,1,1,0] [44,42,40,38,36,4] (.c (.s .z) (.c .z .n)) ⟨rfl,rfl,rfl,rfl,rfl,?_⟩
  intro a w hs;refine zRq (X:=ea.g) (Y:=1#8) hs rfl rfl rfl (by decide) rfl ?_
  refine goL 3 [0] [5,4] (.c (.s (.s .z)) .n) ⟨rfl,?_⟩
  intro a w hs;exact zBJ hs rfl rfl rfl .z (.z (.c (.c (.c (.c (.c (.c (.c (.c (.c .n)))))))))) isAgg48 sizeOf48 (.c .z (.c .z (.c .z .n))) (by first | (rw [zB9 (by omega)];exact ⟨rfl,rfl⟩) | (rw [zCY (by omega) (by omega)];exact ⟨rfl,rfl⟩) | (rw [zBP (by omega) (by omega) (by omega)];exact ⟨rfl,rfl⟩) | (rw [zBR (by omega) (by omega) (by omega)];exact ⟨rfl,rfl⟩))
 refine go 1 [] [47,4,3,2] .n ?_
 intro a w hs;refine zCX 3 ?_
 revert a w hs
 refine go 4 [] [7,47,4,3,2] .n ?_
 intro a w hs
 refine zR [.p [] [],.p [] [],.p [1,0] [],.l [2] [0] [11] [],.p [] [],.p [] [],.p [5,4] [],.p [6] [0],.v [7,3] (zI (IntKind.i64.wrap (ea.p0 + r.p0))),.p [] [],.p [9,0] [],.s [10,8] [0] [0] []] [] hs (.c (.s .z) .n) (.c .z .n) (by kernel_rfl) ⟨rfl,rfl,fun _ _ _ _ hm hs K=>zER hs rfl rfl rfl (vk K),rfl,⟨rfl,by kernel_rfl,fun _=>rfl,rfl,rfl,trivial⟩,fun _=>rfl,?_⟩
 refine goE 0 [] [7,47,4,3,2] .n ?_
 intro a w hs
 refine zR [.p [] [],.p [] [],.p [1,0] [],.l [2] [0] [11] [],.p [] [],.p [] [],.p [5,4] [],.p [6] [0],.v [7,3] (zI (IntKind.i64.wrap (ea.v0 + r.v0))),.p [] [],.p [9,0] [],.s [10,8] [0] [0] []] [] hs (.c (.s (.s .z)) .n) (.c .z .n) (by kernel_rfl) ⟨rfl,rfl,fun _ _ _ _ hm hs K=>zER hs rfl rfl rfl (vk K),rfl,⟨rfl,by kernel_rfl,fun _=>rfl,rfl,rfl,trivial⟩,fun _=>rfl,?_⟩
 refine goE 2 [] [47,4,3,2] .n ⟨by decide,?_⟩
 intro a w hs;refine zAQ ?_
 revert a w hs
 refine go 4 [] [7,47,4,3,2] .n ?_
 intro a w hs
 refine zR [.p [] [],.p [] [],.p [1,0] [],.l [2] [0] [11] [],.p [] [],.p [] [],.p [5,4] [],.p [6] [0],.v [7,3] (zI (IntKind.i64.wrap (ea.p1 + r.p1))),.p [] [],.p [9,0] [],.s [10,8] [0] [0] []] [] hs (.c (.s (.s .z)) .n) (.c .z .n) (by kernel_rfl) ⟨rfl,rfl,fun _ _ _ _ hm hs K=>zER hs rfl rfl rfl (vk K),rfl,⟨rfl,by kernel_rfl,fun _=>rfl,rfl,rfl,trivial⟩,fun _=>rfl,?_⟩
 refine goE 0 [] [7,47,4,3,2] .n ?_
 intro a w hs
 refine zR [.p [] [],.p [] [],.p [1,0] [],.l [2] [0] [11] [],.p [] [],.p [] [],.p [5,4] [],.p [6] [0],.v [7,3] (zI (IntKind.i64.wrap (ea.v1 + r.v1))),.p [] [],.p [9,0] [],.s [10,8] [0] [0] []] [] hs (.c (.s (.s .z)) .n) (.c .z .n) (by kernel_rfl) ⟨rfl,rfl,fun _ _ _ _ hm hs K=>zER hs rfl rfl rfl (vk K),rfl,⟨rfl,by kernel_rfl,fun _=>rfl,rfl,rfl,trivial⟩,fun _=>rfl,?_⟩
 refine goE 2 [] [47,4,3,2] .n ⟨by decide,?_⟩
 intro a w hs;refine zAQ ?_
 revert a w hs
 refine go 4 [] [7,47,4,3,2] .n ?_
 intro a w hs
 refine zR [.p [] [],.p [] [],.p [1,0] [],.l [2] [0] [11] [],.p [] [],.p [] [],.p [5,4] [],.p [6] [0],.v [7,3] (zI (IntKind.i64.wrap (ea.p2 + r.p2))),.p [] [],.p [9,0] [],.s [10,8] [0] [0] []] [] hs (.c (.s (.s .z)) .n) (.c .z .n) (by kernel_rfl) ⟨rfl,rfl,fun _ _ _ _ hm hs K=>zER hs rfl rfl rfl (vk K),rfl,⟨rfl,by kernel_rfl,fun _=>rfl,rfl,rfl,trivial⟩,fun _=>rfl,?_⟩
 refine goE 0 [] [7,47,4,3,2] .n ?_
 intro a w hs
 refine zR [.p [] [],.p [] [],.p [1,0] [],.l [2] [0] [11] [],.p [] [],.p [] [],.p [5,4] [],.p [6] [0],.v [7,3] (zI (IntKind.i64.wrap (ea.v2 + r.v2))),.p [] [],.p [9,0] [],.s [10,8] [0] [0] []] [] hs (.c (.s (.s .z)) .n) (.c .z .n) (by kernel_rfl) ⟨rfl,rfl,fun _ _ _ _ hm hs K=>zER hs rfl rfl rfl (vk K),rfl,⟨rfl,by kernel_rfl,fun _=>rfl,rfl,rfl,trivial⟩,fun _=>rfl,?_⟩
 refine goE 2 [] [47,4,3,2] .n ⟨by decide,?_⟩
 intro a w hs;refine zAQ ?_
 revert a w hs
 refine go 6 [0,1] [76,74,4,2] (.c (.s (.s .z)) (.c .z .n)) ⟨rfl,rfl,?_⟩
 intro a w hs;refine zJn (X:=ea.a) (Y:=r.a) hs rfl rfl rfl rfl rfl ?_
 refine goL 5 [0,0,1] [5,4] (.c .z (.c (.s .z) .n)) ⟨rfl,rfl,rfl,?_⟩
 intro a w hs;exact zBJ hs rfl rfl rfl (.s .z) (.z (.c (.c (.c (.c (.c (.c (.c (.c (.c .n)))))))))) isAgg48 sizeOf48 (.c .z (.c .z (.c .z .n))) (by first | (rw [zB9 (by omega)];exact ⟨rfl,rfl⟩) | (rw [zCY (by omega) (by omega)];exact ⟨rfl,rfl⟩) | (rw [zBP (by omega) (by omega) (by omega)];exact ⟨rfl,rfl⟩) | (rw [zBR (by omega) (by omega) (by omega)];exact ⟨rfl,rfl⟩))
end Go.Proofs.YtajjkegcfmhghaaGreat
