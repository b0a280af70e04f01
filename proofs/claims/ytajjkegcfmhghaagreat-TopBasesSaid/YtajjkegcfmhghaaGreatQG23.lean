import Derived.Test.YtajjkegcfmhghaaGreatQG21
import Derived.Test.YtajjkegcfmhghaaGreatQG22
import Derived.Test.YtajjkegcfmhghaaGreatQSxBasB
/- Walks of what bytes tell: what each function does, over the program of this seat. Printed by a program of this session. -/
namespace Go.Proofs.YtajjkegcfmhghaaGreat
open Tryz
open Go Go.Sx Go.RowKit
set_option linter.unusedVariables false
set_option linter.unusedSimpArgs false
set_option maxRecDepth 4000
set_option maxHeartbeats 1000000

theorem zXL (p g:Nat) (u:Value) (l:List RI) (most:Nat) (fl:Int) (gone:Bool) (N:Nat → Nat) (v:Value) (m:Nat) (bs:List zP) (w0:World) (hp:(blk p [pt g 0,nI most,nI (N 0),nI (N 1),nI (N 2),nI (N 3),nI (N 4),nI (N 5),nI (N 6),nI (N 7),nI (N 8),nI (N 9),nI (N 10),nI (N 11),nI (N 12),nI (N 13),nI (N 14),nI (N 15),nI (N 16),nI (N 17)] 126).p w0) (hg:(blk g [u,nI most,zI fl,.bool (gone)] 188).p w0) (hu:Rd w0 [] u 4 l.length (l.flatMap riV)) (hrw:(rws 48 l).p w0) (ho:Oks (sns l) most) (hb:Rd w0 [] v 1 m (zC bs)):Calls Tryz.prog 61 #[pt p 0,v] w0 (Ret w0 [] fun z Nn=>∃ (X:zAC) (xv:Value),z = .tuple #[.agg #[.int .i64 X.t,.int .i64 X.tm,xv],nI (zBF (sns l) most fl gone (zA bs))] ∧ (zBF (sns l) most fl gone (zA bs) = 0 → X = (zAP (sns l) (zA bs))) ∧ Nn = [row xv 48 9 X.l.length (X.l.flatMap zA9)]):=by
 have hbl:bs.length = m:=by have:=hb.len;simpa [zC] using this
 have hbe:m ≤ maxLen:=hb.le
 simp only [maxLen] at hbe
 have hiv:=zEA hrw
 have hsr:=ho.srt
 have hll:l.length ≤ 100000:=by have:=ho.le;have:=ho.m64;rw [zAL] at *;omega
 have hgl:=zHm bs
 have hbr:=zNp ho (zA bs).b
 refine zD (F0:=[(0,pt p 0),(1,v)]) func61 rfl rfl rfl (.c (.c .n)) (Mem.nil _) ?_
 refine go 3 [] [13,5,4,0] .n (fun g1=>fun g2=>?_)
 intro a w hs;refine zK hs (.c rfl .n) call94 .n (zUc _ _ bs _ (hs.rd0 hb)) rfl ?_;clear hs w a;rintro _ _ a w ⟨v3,rfl,rfl⟩ hs
 have hk4:=zHm bs
 revert a w hs
 refine goL 4 [] [6,16,15,5,4,0] .n (fun g5=>?_)
 intro a w hs;refine zAg hs rfl rfl .z (.z (.c (.c (.c (.c .n))))) (zH rfl (zH rfl (zH rfl (zH (zO (hs.mem.del (.s .z))).isSl.one zAf)))) sizeOf62 rfl ?_
 refine goL 3 [0,0] [18,6,5,4,0] (.c (.s (.s .z)) .n) ⟨rfl,rfl,?_⟩
 refine ifG rfl (fun c_6=>?_) (fun c_6=>?_)
 ·
  refine cl (·.addNil 48 9) ?_
  refine go 0 [] [5,4] .n ?_
  intro a w hs
  refine zR [.l [] [0] [2] [],.l [] [0] [3] [],.s [0] [0] [0] [],.s [1] [0] [1] []] [] hs (.c (.s (.s (.s (.s .z)))) (.c (.s .z) .n)) .n (by kernel_rfl) ⟨rfl,rfl,rfl,rfl,⟨rfl,by kernel_rfl,fun _=>rfl,rfl,rfl,trivial⟩,fun _=>rfl,?_⟩
  refine goE 0 [] [5,4] .n ?_
  intro a w hs;exact zSr hs rfl rfl rfl (.s (.s (.s .z))) (.z (.c (.c (.c .n)))) isAgg46 sizeOf46 (.s (.s (.s (.s .z)))) .z isAgg34 (.c (.s (.s (.s (.s .z)))) (.c (.s (.s (.s .z))) (.c (.s (.s .z)) (.c (.s .z) .n)))) ⟨default,_,by rw [zWZ (by omega)] <;> rfl,fun h=>absurd h (by rw [zWZ (by omega)];omega),rfl⟩
 refine go 2 [] [7,6,5,4,0] .n ?_
 intro a w hs
 refine zAU [.p [] [],.p [0] [],.p [1] [],.v [2] (pt g 0),.p [] [],.p [4] [0],.v [5,3] (.tuple #[.agg #[zI ((zAZ l ((zA bs).t)).t),zI ((zAZ l ((zA bs).t)).tm),(zAZ l ((zA bs).t)).v],.bool (zCR (sns l) ((zA bs).t))]),.p [6] [],.p [7] [],.p [7] [],.x [] ⟨[],[],[],fun vs8=>vs8 10 = pt (zCx (vs8 10)) 0,fun vs8=>[blk (zCx (vs8 10)) [zI 0,zI 0,.slice none 0 0] 46],none⟩,.x [8] ⟨[],[10],[10],fun vs8=>True,fun vs8=>[blk (zCx (vs8 10)) [zI ((zAZ l ((zA bs).t)).t),zI ((zAZ l ((zA bs).t)).tm),(zAZ l ((zA bs).t)).v] 46],none⟩,.p [9] []] [12] hs .n .n (.c (.s .z) .n) (by kernel_rfl) ⟨fun _ _ _ _ hm hs K=>zU hs rfl (hm.keep hp (by simp [zL,blk])) .z isAgg123 rfl (vk K),rfl,fun _ _ _ _ hm hs K=>zB (v:=.tuple #[.agg #[zI ((zAZ l ((zA bs).t)).t),zI ((zAZ l ((zA bs).t)).tm),(zAZ l ((zA bs).t)).v],.bool (zCR (sns l) ((zA bs).t))]) hs (.c rfl (.c rfl .n)) call64 (zGm g _ l most fl gone ((zA bs).t) _ (hm.rd0 hu) (hm.keep hg (by simp [zL,blk])) hsr (by omega) hiv) rfl (vk K),⟨.n,by kernel_rfl,fun _=>rfl,rfl,rfl⟩,⟨?_,?_,trivial⟩,?_⟩
 ·
  intro a_ w_ R_ rest_ vs8 hm hs ht hx
  have hs0:=hs.bare
  refine zCi (cs:=[zI 0,zI 0,.slice none 0 0]) hs zeroValue46 rfl rfl ?_;clear hs;intro g9 a w hs
  exact wpList_nil ⟨rfl,_,_,hs0,.r,hs,rfl⟩
 ·
  intro a_ w_ R_ rest_ vs8 hm hs ht hx
  have t10:=ht 10 (zJ 13 _ (by kernel_rfl))
  have e10:_ = some (vs8 10):=t10.val rfl
  rw [show vs8 10 = pt (zCx (vs8 10)) 0 from t10.2.1] at e10
  replace hs:=hs.learn e10
  have hs0:=hs.bare
  refine zAg hs rfl rfl .z (.z (.c (.c (.c .n)))) (zH rfl (zH rfl (zH (zET (hm.keepH hrw (by simp)) (zFO l ((zA bs).t) hsr)).isSl.one zAf))) sizeOf46 rfl ?_;clear hs;intro a w hs
  exact wpList_nil ⟨rfl,.tuple #[],_,hs0,(.c (.c .r)),hs,trivial⟩
 clear hs w a;intro vs8 a w hs hf
 generalize zCx (vs8 10) = g10 at hs
 clear hf
 revert a w hs
 refine goE 2 [] [33,32,7,6,5,4,0] .n ?_
 intro a w hs;refine zA6 (us:=[pt g2 0]) hs rfl (.c rfl (.c rfl .n)) rfl call95 (.c .z .n) (zEk (zCR (sns l) ((zA bs).t)) 12 ((zA bs).e) g2 _ _ (hs.mem.del .z)) rfl ?_;clear hs w a;rintro _ _ a w ⟨rfl,rfl⟩ hs
 revert a w hs
 refine goL 4 [0] [38,36,35,7,6,5,4,0] (.c (.s .z) .n) ⟨rfl,?_⟩
 intro a w hs;refine zB (v:=.bool (stl (sns l) most fl gone ((zA bs).t))) hs (.c rfl (.c rfl .n)) call96 (zVS p g _ l most fl gone N ((zA bs).t) _ (hs.mem.keep hp (by simp [zL,blk])) (hs.mem.keep hg (by simp [zL,blk])) (hs.rd0 hu) (hs.mem.keepH hrw (by simp)) ho) rfl ?_
 intro a w hs;refine zA6 (us:=[pt g2 0]) hs rfl (.c rfl (.c rfl .n)) rfl call95 (.c (.s .z) .n) (zEk (stl (sns l) most fl gone ((zA bs).t)) 13 (zFd ((zA bs).e) (zCR (sns l) ((zA bs).t)) 12) g2 _ _ (hs.mem.del (.s .z))) rfl ?_;clear hs w a;rintro _ _ a w ⟨rfl,rfl⟩ hs
 revert a w hs
 refine goL 0 [] [7,6,5,4,0] .n ?_
 intro a w hs
 refine zAU [.p [] [],.p [0] [],.p [1] [],.v [2] (pt g 0),.p [] [],.p [4] [0],.v [5,3] (.tuple #[.agg #[zI ((zAZ l ((zA bs).b)).t),zI ((zAZ l ((zA bs).b)).tm),(zAZ l ((zA bs).b)).v],.bool (zCR (sns l) ((zA bs).b))]),.p [6] [],.p [7] [],.p [7] [],.x [] ⟨[],[],[],fun vs11=>vs11 10 = pt (zCx (vs11 10)) 0,fun vs11=>[blk (zCx (vs11 10)) [zI 0,zI 0,.slice none 0 0] 46],none⟩,.x [8] ⟨[],[10],[10],fun vs11=>True,fun vs11=>[blk (zCx (vs11 10)) [zI ((zAZ l ((zA bs).b)).t),zI ((zAZ l ((zA bs).b)).tm),(zAZ l ((zA bs).b)).v] 46],none⟩,.p [9] []] [12] hs .n .n (.c (.s .z) .n) (by kernel_rfl) ⟨fun _ _ _ _ hm hs K=>zU hs rfl (hm.keep hp (by simp [zL,blk])) .z isAgg123 rfl (vk K),rfl,fun _ _ _ _ hm hs K=>zB (v:=.tuple #[.agg #[zI ((zAZ l ((zA bs).b)).t),zI ((zAZ l ((zA bs).b)).tm),(zAZ l ((zA bs).b)).v],.bool (zCR (sns l) ((zA bs).b))]) hs (.c rfl (.c rfl .n)) call64 (zGm g _ l most fl gone ((zA bs).b) _ (hm.rd0 hu) (hm.keep hg (by simp [zL,blk])) hsr (by omega) hiv) rfl (vk K),⟨.n,by kernel_rfl,fun _=>rfl,rfl,rfl⟩,⟨?_,?_,trivial⟩,?_⟩
 ·
  intro a_ w_ R_ rest_ vs11 hm hs ht hx
  have hs0:=hs.bare
  refine zCi (cs:=[zI 0,zI 0,.slice none 0 0]) hs zeroValue46 rfl rfl ?_;clear hs;intro g12 a w hs
  exact wpList_nil ⟨rfl,_,_,hs0,.r,hs,rfl⟩
 ·
  intro a_ w_ R_ rest_ vs11 hm hs ht hx
  have t10:=ht 10 (zJ 13 _ (by kernel_rfl))
  have e10:_ = some (vs11 10):=t10.val rfl
  rw [show vs11 10 = pt (zCx (vs11 10)) 0 from t10.2.1] at e10
  replace hs:=hs.learn e10
  have hs0:=hs.bare
  refine zAg hs rfl rfl .z (.z (.c (.c (.c .n)))) (zH rfl (zH rfl (zH (zET (hm.keepH hrw (by simp)) (zFO l ((zA bs).b) hsr)).isSl.one zAf))) sizeOf46 rfl ?_;clear hs;intro a w hs
  exact wpList_nil ⟨rfl,.tuple #[],_,hs0,(.c (.c .r)),hs,trivial⟩
 clear hs w a;intro vs11 a w hs hf
 obtain ⟨e10,q10⟩:=hf 10 (by decide)
 replace e10:_ = some (vs11 10):=e10.val rfl
 rw [show vs11 10 = pt (zCx (vs11 10)) 0 from q10] at e10
 replace hs:=hs.learn e10;clear e10 q10
 generalize zCx (vs11 10) = g13 at hs
 clear hf
 revert a w hs
 refine goE 4 [] [54,51,10,7,6,5,4,0] .n ?_
 intro a w hs;refine zY (b:=!(zCR (sns l) ((zA bs).b))) (fun c_14=>?_) (fun c_14=>?_)
 ·
  rw [c_14] at hs
  replace c_14:=zF5 c_14
  revert a w hs
  refine go 4 [0] [58,51,10,7,6,5,4,0] (.c (.s .z) .n) ⟨rfl,?_⟩
  intro a w hs;replace hs:=hs.reslot (d:=58) (v:=.bool (decide (0 ≤ ((zA bs).b)))) (v':=.bool (zHc (sns l) (zA bs).b)) rfl (Option.some.inj (congrArg (fun b=>some (Value.bool b)) (by unfold zHc;simp_all)))
  refine zA6 (us:=[pt g2 0]) hs rfl (.c rfl (.c rfl .n)) rfl call95 (.c (.s .z) .n) (zEk (zHc (sns l) (zA bs).b) 14 (zFd (zFd ((zA bs).e) (zCR (sns l) ((zA bs).t)) 12) (stl (sns l) most fl gone ((zA bs).t)) 13) g2 _ _ (hs.mem.del (.s .z))) rfl ?_;clear hs w a;rintro _ _ a w ⟨rfl,rfl⟩ hs
  revert a w hs
  refine goL 2 [0] [61,10,7,6,5,4,0] (.c .z .n) ⟨rfl,?_⟩
  refine ifG rfl (fun c_15=>?_) (fun c_15=>?_)
  ·
   refine go 2 [0,1] [64,63,7,5,4,0] (.c (.s (.s (.s (.s (.s .z))))) (.c (.s .z) .n)) ⟨rfl,rfl,?_⟩
   intro a w hs;refine zK hs (.c rfl (.c rfl .n)) call97 .n (zLk ((zAZ l ((zA bs).b)).t) ((zAZ l ((zA bs).b)).tm) _ ((zAZ l ((zA bs).b)).l) ((zA bs).t) ((zA bs).tm) ((zA bs).b) _ ((zA bs).l) _ (by omega) (by omega) (by omega) (by omega) (by omega) (zET (hs.mem.keepH hrw (by simp)) (zFO l ((zA bs).b) hsr)) (zO (hs.mem.del (.s (.s (.s .z))))) (zKq bs)) rfl ?_;clear hs w a;rintro _ _ a w ⟨v16,rfl,rfl⟩ hs
   have hk17:=zN1 (at_:=((zAZ l ((zA bs).b)).t)) (atm:=((zAZ l ((zA bs).b)).tm)) (a:=(zAZ l ((zA bs).b)).l) (gt:=((zA bs).t)) (gtm:=((zA bs).tm)) (gb:=((zA bs).b)) (rl:=(zA bs).l)
   revert a w hs
   refine goL 3 [] [67,66,7,5,4,0] .n ?_
   intro a w hs;refine zAg hs rfl rfl (.s (.s (.s (.s (.s .z))))) (.z (.c (.c (.c .n)))) (zH rfl (zH rfl (zH (zO (hs.mem.del .z)).isSl.one zAf))) sizeOf46 rfl ?_
   refine goL 4 [0,1] [70,69,68,5,4] (.c (.s (.s (.s (.s .z)))) (.c .z .n)) ⟨rfl,rfl,?_⟩
   intro a w hs;refine zB (v:=.bool (tml (sns l) ((aS ((zAZ l ((zA bs).b)).t) ((zAZ l ((zA bs).b)).tm) ((zAZ l ((zA bs).b)).l) ((zA bs).t) ((zA bs).tm) ((zA bs).b) ((zA bs).l)).t) ((aS ((zAZ l ((zA bs).b)).t) ((zAZ l ((zA bs).b)).tm) ((zAZ l ((zA bs).b)).l) ((zA bs).t) ((zA bs).tm) ((zA bs).b) ((zA bs).l)).tm))) hs (.c rfl (.c rfl .n)) call98 (zFV p g _ l most fl gone N ((aS ((zAZ l ((zA bs).b)).t) ((zAZ l ((zA bs).b)).tm) ((zAZ l ((zA bs).b)).l) ((zA bs).t) ((zA bs).tm) ((zA bs).b) ((zA bs).l)).t) ((aS ((zAZ l ((zA bs).b)).t) ((zAZ l ((zA bs).b)).tm) ((zAZ l ((zA bs).b)).l) ((zA bs).t) ((zA bs).tm) ((zA bs).b) ((zA bs).l)).tm) _ _ (zO (hs.mem.del (.s (.s .z)))).isSl _ (hs.mem.keep hp (by simp [zL,blk])) (hs.mem.keep hg (by simp [zL,blk])) (hs.rd0 hu) (hs.mem.keepH hrw (by simp)) ho) rfl ?_
   refine goL 1 [] [72,68,5,4] .n ?_
   intro a w hs;refine zA6 (us:=[pt g2 0]) hs rfl (.c rfl (.c rfl .n)) rfl call95 (.c .z .n) (zEk (!(tml (sns l) ((aS ((zAZ l ((zA bs).b)).t) ((zAZ l ((zA bs).b)).tm) ((zAZ l ((zA bs).b)).l) ((zA bs).t) ((zA bs).tm) ((zA bs).b) ((zA bs).l)).t) ((aS ((zAZ l ((zA bs).b)).t) ((zAZ l ((zA bs).b)).tm) ((zAZ l ((zA bs).b)).l) ((zA bs).t) ((zA bs).tm) ((zA bs).b) ((zA bs).l)).tm))) 16 (aE ((zAZ l ((zA bs).b)).t) ((zAZ l ((zA bs).b)).tm) ((zAZ l ((zA bs).b)).l) ((zA bs).t) ((zA bs).tm) ((zA bs).b) ((zA bs).l)) g2 _ _ (hs.mem.del .z)) rfl ?_;clear hs w a;rintro _ _ a w ⟨rfl,rfl⟩ hs
   revert a w hs
   refine goL 0 [] [5,4] .n ?_
   intro a w hs
   refine zAU [.y [] (.agg #[zI ((aS ((zAZ l ((zA bs).b)).t) ((zAZ l ((zA bs).b)).tm) ((zAZ l ((zA bs).b)).l) ((zA bs).t) ((zA bs).tm) ((zA bs).b) ((zA bs).l)).t),zI ((aS ((zAZ l ((zA bs).b)).t) ((zAZ l ((zA bs).b)).tm) ((zAZ l ((zA bs).b)).l) ((zA bs).t) ((zA bs).tm) ((zA bs).b) ((zA bs).l)).tm),v16]) [] [] [] fun vs18=>[],.l [] [0] [3] [],.x [0] ⟨[blk g1 [zI ((aS ((zAZ l ((zA bs).b)).t) ((zAZ l ((zA bs).b)).tm) ((zAZ l ((zA bs).b)).l) ((zA bs).t) ((zA bs).tm) ((zA bs).b) ((zA bs).l)).t),zI ((aS ((zAZ l ((zA bs).b)).t) ((zAZ l ((zA bs).b)).tm) ((zAZ l ((zA bs).b)).l) ((zA bs).t) ((zA bs).tm) ((zA bs).b) ((zA bs).l)).tm),v16] 46],[],[],fun vs18=>True,fun vs18=>[blk g1 [zI ((aS ((zAZ l ((zA bs).b)).t) ((zAZ l ((zA bs).b)).tm) ((zAZ l ((zA bs).b)).l) ((zA bs).t) ((zA bs).tm) ((zA bs).b) ((zA bs).l)).t),zI ((aS ((zAZ l ((zA bs).b)).t) ((zAZ l ((zA bs).b)).tm) ((zAZ l ((zA bs).b)).l) ((zA bs).t) ((zA bs).tm) ((zA bs).b) ((zA bs).l)).tm),v16] 46],none⟩,.s [1] [0] [0] []] [] hs (.c .z .n) (.c .z .n) .n (by kernel_rfl) ⟨rfl,rfl,⟨(.c (.s .z) (.c .z .n)),by kernel_rfl,fun _=>rfl,rfl,rfl⟩,⟨?_,?_,trivial⟩,?_⟩
   ·
    intro a_ w_ R_ rest_ vs18 hm hs ht hx
    have hs0:=hs.bare
    refine zRd hs rfl (hm.own (List.mem_append.2 (.inr ((hx 2 (zJ 4 _ (by kernel_rfl))).1 _ (List.Mem.head _))))) (.z (.c (.c (.c .n)))) isAgg46 sizeOf46 rfl ?_;clear hs;intro a w hs
    exact wpList_nil ⟨rfl,_,_,hs0,.r,hs,rfl⟩
   ·
    intro a_ w_ R_ rest_ vs18 hm hs ht hx
    have hm0:=hm.mid
    have hs0:=hs.bare
    refine zAg hs rfl rfl .z (.z (.c (.c (.c .n)))) (zH rfl (zH rfl (zH (zO (hm0.del .z)).isSl.one zAf))) sizeOf46 rfl ?_;clear hs;intro a w hs
    exact wpList_nil ⟨rfl,.tuple #[],_,hs0,(.c .r),hs,trivial⟩
   clear hs w a;intro vs18 a w hs hf
   clear hf
   revert a w hs
   refine goE 0 [] [5,4] .n ?_
   intro a w hs;exact zSr hs rfl rfl rfl (.s (.s (.s (.s (.s .z))))) (.z (.c (.c (.c .n)))) isAgg46 sizeOf46 (.s (.s (.s (.s (.s (.s .z)))))) .z isAgg34 (.c (.s (.s (.s (.s (.s (.s .z)))))) (.c (.s (.s (.s (.s (.s .z))))) (.c (.s (.s (.s (.s .z)))) (.c (.s (.s (.s .z))) (.c (.s (.s .z)) (.c (.s .z) .n)))))) ⟨_,_,by rw [zWr (by omega) (by show zFd _ _ _ = 0;omega),zJA hsr,zGP hsr] <;> rfl,fun _=>(zGP hsr).symm,rfl⟩
  refine cl (·.addNil 48 9) ?_
  refine go 3 [0] [70,69,68,5,4] (.c (.s (.s (.s (.s .z)))) .n) ⟨rfl,?_⟩
  intro a w hs;refine zB (v:=.bool (tml (sns l) 0 0)) hs (.c rfl (.c rfl .n)) call98 (zFV p g _ l most fl gone N 0 0 _ _ ⟨_,_,rfl⟩ _ (hs.mem.keep hp (by simp [zL,blk])) (hs.mem.keep hg (by simp [zL,blk])) (hs.rd0 hu) (hs.mem.keepH hrw (by simp)) ho) rfl ?_
  refine goL 1 [] [72,68,5,4] .n ?_
  intro a w hs;refine zA6 (us:=[pt g2 0]) hs rfl (.c rfl (.c rfl .n)) rfl call95 (.c (.s (.s .z)) .n) (zEk (!(tml (sns l) 0 0)) 16 (zFd (zFd (zFd ((zA bs).e) (zCR (sns l) ((zA bs).t)) 12) (stl (sns l) most fl gone ((zA bs).t)) 13) (zHc (sns l) (zA bs).b) 14) g2 _ _ (hs.mem.del (.s (.s .z)))) rfl ?_;clear hs w a;rintro _ _ a w ⟨rfl,rfl⟩ hs
  revert a w hs
  refine goL 0 [] [5,4] .n ?_
  intro a w hs
  refine zR [.l [] [0] [2] [],.l [] [0] [3] [],.s [0] [0] [0] [],.s [1] [0] [1] []] [] hs (.c (.s .z) (.c .z .n)) .n (by kernel_rfl) ⟨rfl,rfl,rfl,rfl,⟨rfl,by kernel_rfl,fun _=>rfl,rfl,rfl,trivial⟩,fun _=>rfl,?_⟩
  refine goE 0 [] [5,4] .n ?_
  intro a w hs;exact zSr hs rfl rfl rfl (.s (.s (.s (.s (.s .z))))) (.z (.c (.c (.c .n)))) isAgg46 sizeOf46 (.s (.s (.s (.s (.s (.s .z)))))) .z isAgg34 (.c (.s (.s (.s (.s (.s (.s .z)))))) (.c (.s (.s (.s (.s (.s .z))))) (.c (.s (.s (.s (.s .z)))) (.c (.s (.s (.s .z))) (.c (.s (.s .z)) (.c (.s .z) .n)))))) ⟨default,_,by rw [zIq (by omega) (by show zFd _ _ _ ≠ 0;omega),zHC (by omega)] <;> rfl,fun h=>absurd h (by rw [zIq (by omega) (by show zFd _ _ _ ≠ 0;omega)];show ¬ zFd _ _ _ = 0;omega),rfl⟩
 rw [c_14] at hs
 replace c_14:=zGF c_14
 revert a w hs
 refine go 4 [] [58,51,10,7,6,5,4,0] .n ?_
 intro a w hs;replace hs:=hs.reslot (d:=58) (v:=.bool (false)) (v':=.bool (zHc (sns l) (zA bs).b)) rfl (Option.some.inj (congrArg (fun b=>some (Value.bool b)) (by unfold zHc;simp_all)))
 refine zA6 (us:=[pt g2 0]) hs rfl (.c rfl (.c rfl .n)) rfl call95 (.c .z .n) (zEk (zHc (sns l) (zA bs).b) 14 (zFd (zFd ((zA bs).e) (zCR (sns l) ((zA bs).t)) 12) (stl (sns l) most fl gone ((zA bs).t)) 13) g2 _ _ (hs.mem.del .z)) rfl ?_;clear hs w a;rintro _ _ a w ⟨rfl,rfl⟩ hs
 revert a w hs
 refine goL 2 [0] [61,10,7,6,5,4,0] (.c .z .n) ⟨rfl,?_⟩
 refine ifG rfl (fun c_20=>?_) (fun c_20=>?_)
 ·
  refine go 2 [0,1] [64,63,7,5,4,0] (.c (.s (.s (.s (.s (.s .z))))) (.c (.s .z) .n)) ⟨rfl,rfl,?_⟩
  intro a w hs;refine zK hs (.c rfl (.c rfl .n)) call97 .n (zLk ((zAZ l ((zA bs).b)).t) ((zAZ l ((zA bs).b)).tm) _ ((zAZ l ((zA bs).b)).l) ((zA bs).t) ((zA bs).tm) ((zA bs).b) _ ((zA bs).l) _ (by omega) (by omega) (by omega) (by omega) (by omega) (zET (hs.mem.keepH hrw (by simp)) (zFO l ((zA bs).b) hsr)) (zO (hs.mem.del (.s (.s (.s .z))))) (zKq bs)) rfl ?_;clear hs w a;rintro _ _ a w ⟨v21,rfl,rfl⟩ hs
  have hk22:=zN1 (at_:=((zAZ l ((zA bs).b)).t)) (atm:=((zAZ l ((zA bs).b)).tm)) (a:=(zAZ l ((zA bs).b)).l) (gt:=((zA bs).t)) (gtm:=((zA bs).tm)) (gb:=((zA bs).b)) (rl:=(zA bs).l)
  revert a w hs
  refine goL 3 [] [67,66,7,5,4,0] .n ?_
  intro a w hs;refine zAg hs rfl rfl (.s (.s (.s (.s (.s .z))))) (.z (.c (.c (.c .n)))) (zH rfl (zH rfl (zH (zO (hs.mem.del .z)).isSl.one zAf))) sizeOf46 rfl ?_
  refine goL 4 [0,1] [70,69,68,5,4] (.c (.s (.s (.s (.s .z)))) (.c .z .n)) ⟨rfl,rfl,?_⟩
  intro a w hs;refine zB (v:=.bool (tml (sns l) ((aS ((zAZ l ((zA bs).b)).t) ((zAZ l ((zA bs).b)).tm) ((zAZ l ((zA bs).b)).l) ((zA bs).t) ((zA bs).tm) ((zA bs).b) ((zA bs).l)).t) ((aS ((zAZ l ((zA bs).b)).t) ((zAZ l ((zA bs).b)).tm) ((zAZ l ((zA bs).b)).l) ((zA bs).t) ((zA bs).tm) ((zA bs).b) ((zA bs).l)).tm))) hs (.c rfl (.c rfl .n)) call98 (zFV p g _ l most fl gone N ((aS ((zAZ l ((zA bs).b)).t) ((zAZ l ((zA bs).b)).tm) ((zAZ l ((zA bs).b)).l) ((zA bs).t) ((zA bs).tm) ((zA bs).b) ((zA bs).l)).t) ((aS ((zAZ l ((zA bs).b)).t) ((zAZ l ((zA bs).b)).tm) ((zAZ l ((zA bs).b)).l) ((zA bs).t) ((zA bs).tm) ((zA bs).b) ((zA bs).l)).tm) _ _ (zO (hs.mem.del (.s (.s .z)))).isSl _ (hs.mem.keep hp (by simp [zL,blk])) (hs.mem.keep hg (by simp [zL,blk])) (hs.rd0 hu) (hs.mem.keepH hrw (by simp)) ho) rfl ?_
  refine goL 1 [] [72,68,5,4] .n ?_
  intro a w hs;refine zA6 (us:=[pt g2 0]) hs rfl (.c rfl (.c rfl .n)) rfl call95 (.c .z .n) (zEk (!(tml (sns l) ((aS ((zAZ l ((zA bs).b)).t) ((zAZ l ((zA bs).b)).tm) ((zAZ l ((zA bs).b)).l) ((zA bs).t) ((zA bs).tm) ((zA bs).b) ((zA bs).l)).t) ((aS ((zAZ l ((zA bs).b)).t) ((zAZ l ((zA bs).b)).tm) ((zAZ l ((zA bs).b)).l) ((zA bs).t) ((zA bs).tm) ((zA bs).b) ((zA bs).l)).tm))) 16 (aE ((zAZ l ((zA bs).b)).t) ((zAZ l ((zA bs).b)).tm) ((zAZ l ((zA bs).b)).l) ((zA bs).t) ((zA bs).tm) ((zA bs).b) ((zA bs).l)) g2 _ _ (hs.mem.del .z)) rfl ?_;clear hs w a;rintro _ _ a w ⟨rfl,rfl⟩ hs
  revert a w hs
  refine goL 0 [] [5,4] .n ?_
  intro a w hs
  refine zAU [.y [] (.agg #[zI ((aS ((zAZ l ((zA bs).b)).t) ((zAZ l ((zA bs).b)).tm) ((zAZ l ((zA bs).b)).l) ((zA bs).t) ((zA bs).tm) ((zA bs).b) ((zA bs).l)).t),zI ((aS ((zAZ l ((zA bs).b)).t) ((zAZ l ((zA bs).b)).tm) ((zAZ l ((zA bs).b)).l) ((zA bs).t) ((zA bs).tm) ((zA bs).b) ((zA bs).l)).tm),v21]) [] [] [] fun vs23=>[],.l [] [0] [3] [],.x [0] ⟨[blk g1 [zI ((aS ((zAZ l ((zA bs).b)).t) ((zAZ l ((zA bs).b)).tm) ((zAZ l ((zA bs).b)).l) ((zA bs).t) ((zA bs).tm) ((zA bs).b) ((zA bs).l)).t),zI ((aS ((zAZ l ((zA bs).b)).t) ((zAZ l ((zA bs).b)).tm) ((zAZ l ((zA bs).b)).l) ((zA bs).t) ((zA bs).tm) ((zA bs).b) ((zA bs).l)).tm),v21] 46],[],[],fun vs23=>True,fun vs23=>[blk g1 [zI ((aS ((zAZ l ((zA bs).b)).t) ((zAZ l ((zA bs).b)).tm) ((zAZ l ((zA bs).b)).l) ((zA bs).t) ((zA bs).tm) ((zA bs).b) ((zA bs).l)).t),zI ((aS ((zAZ l ((zA bs).b)).t) ((zAZ l ((zA bs).b)).tm) ((zAZ l ((zA bs).b)).l) ((zA bs).t) ((zA bs).tm) ((zA bs).b) ((zA bs).l)).tm),v21] 46],none⟩,.s [1] [0] [0] []] [] hs (.c .z .n) (.c .z .n) .n (by kernel_rfl) ⟨rfl,rfl,⟨(.c (.s .z) (.c .z .n)),by kernel_rfl,fun _=>rfl,rfl,rfl⟩,⟨?_,?_,trivial⟩,?_⟩
  ·
   intro a_ w_ R_ rest_ vs23 hm hs ht hx
   have hs0:=hs.bare
   refine zRd hs rfl (hm.own (List.mem_append.2 (.inr ((hx 2 (zJ 4 _ (by kernel_rfl))).1 _ (List.Mem.head _))))) (.z (.c (.c (.c .n)))) isAgg46 sizeOf46 rfl ?_;clear hs;intro a w hs
   exact wpList_nil ⟨rfl,_,_,hs0,.r,hs,rfl⟩
  ·
   intro a_ w_ R_ rest_ vs23 hm hs ht hx
   have hm0:=hm.mid
   have hs0:=hs.bare
   refine zAg hs rfl rfl .z (.z (.c (.c (.c .n)))) (zH rfl (zH rfl (zH (zO (hm0.del .z)).isSl.one zAf))) sizeOf46 rfl ?_;clear hs;intro a w hs
   exact wpList_nil ⟨rfl,.tuple #[],_,hs0,(.c .r),hs,trivial⟩
  clear hs w a;intro vs23 a w hs hf
  clear hf
  revert a w hs
  refine goE 0 [] [5,4] .n ?_
  intro a w hs;exact zSr hs rfl rfl rfl (.s (.s (.s (.s (.s .z))))) (.z (.c (.c (.c .n)))) isAgg46 sizeOf46 (.s (.s (.s (.s (.s (.s .z)))))) .z isAgg34 (.c (.s (.s (.s (.s (.s (.s .z)))))) (.c (.s (.s (.s (.s (.s .z))))) (.c (.s (.s (.s (.s .z)))) (.c (.s (.s (.s .z))) (.c (.s (.s .z)) (.c (.s .z) .n)))))) ⟨_,_,by rw [zWr (by omega) (by show zFd _ _ _ = 0;omega),zJA hsr,zGP hsr] <;> rfl,fun _=>(zGP hsr).symm,rfl⟩
 refine cl (·.addNil 48 9) ?_
 refine go 3 [0] [70,69,68,5,4] (.c (.s (.s (.s (.s .z)))) .n) ⟨rfl,?_⟩
 intro a w hs;refine zB (v:=.bool (tml (sns l) 0 0)) hs (.c rfl (.c rfl .n)) call98 (zFV p g _ l most fl gone N 0 0 _ _ ⟨_,_,rfl⟩ _ (hs.mem.keep hp (by simp [zL,blk])) (hs.mem.keep hg (by simp [zL,blk])) (hs.rd0 hu) (hs.mem.keepH hrw (by simp)) ho) rfl ?_
 refine goL 1 [] [72,68,5,4] .n ?_
 intro a w hs;refine zA6 (us:=[pt g2 0]) hs rfl (.c rfl (.c rfl .n)) rfl call95 (.c (.s (.s .z)) .n) (zEk (!(tml (sns l) 0 0)) 16 (zFd (zFd (zFd ((zA bs).e) (zCR (sns l) ((zA bs).t)) 12) (stl (sns l) most fl gone ((zA bs).t)) 13) (zHc (sns l) (zA bs).b) 14) g2 _ _ (hs.mem.del (.s (.s .z)))) rfl ?_;clear hs w a;rintro _ _ a w ⟨rfl,rfl⟩ hs
 revert a w hs
 refine goL 0 [] [5,4] .n ?_
 intro a w hs
 refine zR [.l [] [0] [2] [],.l [] [0] [3] [],.s [0] [0] [0] [],.s [1] [0] [1] []] [] hs (.c (.s .z) (.c .z .n)) .n (by kernel_rfl) ⟨rfl,rfl,rfl,rfl,⟨rfl,by kernel_rfl,fun _=>rfl,rfl,rfl,trivial⟩,fun _=>rfl,?_⟩
 refine goE 0 [] [5,4] .n ?_
 intro a w hs;exact zSr hs rfl rfl rfl (.s (.s (.s (.s (.s .z))))) (.z (.c (.c (.c .n)))) isAgg46 sizeOf46 (.s (.s (.s (.s (.s (.s .z)))))) .z isAgg34 (.c (.s (.s (.s (.s (.s (.s .z)))))) (.c (.s (.s (.s (.s (.s .z))))) (.c (.s (.s (.s (.s .z)))) (.c (.s (.s (.s .z))) (.c (.s (.s .z)) (.c (.s .z) .n)))))) ⟨default,_,by rw [zIq (by omega) (by show zFd _ _ _ ≠ 0;omega),zHC (by omega)] <;> rfl,fun h=>absurd h (by rw [zIq (by omega) (by show zFd _ _ _ ≠ 0;omega)];show ¬ zFd _ _ _ = 0;omega),rfl⟩
end Go.Proofs.YtajjkegcfmhghaaGreat
/- Walks of accepting: what each function does, over the program of this seat. Printed by a program of this session. -/
namespace Go.Proofs.YtajjkegcfmhghaaGreat
open Tryz
open Go Go.Sx Go.RowKit
set_option linter.unusedVariables false
set_option linter.unusedSimpArgs false
set_option maxRecDepth 4000
set_option maxHeartbeats 1000000

theorem zRJ (p g:Nat) (u:Value) (l:List RI) (most:Nat) (fl:Int) (gone:Bool) (N:Nat → Nat) (v:Value) (m:Nat) (bs:List zP) (w0:World) (hM:∀ h ∈ [blk p [pt g 0,nI most,nI (N 0),nI (N 1),nI (N 2),nI (N 3),nI (N 4),nI (N 5),nI (N 6),nI (N 7),nI (N 8),nI (N 9),nI (N 10),nI (N 11),nI (N 12),nI (N 13),nI (N 14),nI (N 15),nI (N 16),nI (N 17)] 126,blk g [u,nI most,zI fl,.bool (gone)] 188,row u 191 4 l.length (l.flatMap riV),rws 48 l],h.p w0) (hnd:(zL [blk p [pt g 0,nI most,nI (N 0),nI (N 1),nI (N 2),nI (N 3),nI (N 4),nI (N 5),nI (N 6),nI (N 7),nI (N 8),nI (N 9),nI (N 10),nI (N 11),nI (N 12),nI (N 13),nI (N 14),nI (N 15),nI (N 16),nI (N 17)] 126,blk g [u,nI most,zI fl,.bool (gone)] 188,row u 191 4 l.length (l.flatMap riV),rws 48 l]).Nodup) (ho:Oks (sns l) most) (hN:∀ i,N i ≤ 1000000) (hb:Rd w0 (zL [blk p [pt g 0,nI most,nI (N 0),nI (N 1),nI (N 2),nI (N 3),nI (N 4),nI (N 5),nI (N 6),nI (N 7),nI (N 8),nI (N 9),nI (N 10),nI (N 11),nI (N 12),nI (N 13),nI (N 14),nI (N 15),nI (N 16),nI (N 17)] 126,blk g [u,nI most,zI fl,.bool (gone)] 188,row u 191 4 l.length (l.flatMap riV),rws 48 l]) v 1 m (zC bs)):Calls Tryz.prog 38 #[pt p 0,v] w0 (Ret w0 (zL [blk p [pt g 0,nI most,nI (N 0),nI (N 1),nI (N 2),nI (N 3),nI (N 4),nI (N 5),nI (N 6),nI (N 7),nI (N 8),nI (N 9),nI (N 10),nI (N 11),nI (N 12),nI (N 13),nI (N 14),nI (N 15),nI (N 16),nI (N 17)] 126,blk g [u,nI most,zI fl,.bool (gone)] 188,row u 191 4 l.length (l.flatMap riV),rws 48 l]) fun z Nn=>z = .tuple #[zI (zJD (sns l) most fl gone (zA bs)),nI (zBF (sns l) most fl gone (zA bs))] ∧ ∃ (u':Value) (l':List RI),(zBp most ⟨sns l,fl,gone,N⟩ (zA bs)).l = sns l' ∧ Nn = [blk p [pt g 0,nI most,nI (((zBp most ⟨sns l,fl,gone,N⟩ (zA bs)).n) 0),nI (((zBp most ⟨sns l,fl,gone,N⟩ (zA bs)).n) 1),nI (((zBp most ⟨sns l,fl,gone,N⟩ (zA bs)).n) 2),nI (((zBp most ⟨sns l,fl,gone,N⟩ (zA bs)).n) 3),nI (((zBp most ⟨sns l,fl,gone,N⟩ (zA bs)).n) 4),nI (((zBp most ⟨sns l,fl,gone,N⟩ (zA bs)).n) 5),nI (((zBp most ⟨sns l,fl,gone,N⟩ (zA bs)).n) 6),nI (((zBp most ⟨sns l,fl,gone,N⟩ (zA bs)).n) 7),nI (((zBp most ⟨sns l,fl,gone,N⟩ (zA bs)).n) 8),nI (((zBp most ⟨sns l,fl,gone,N⟩ (zA bs)).n) 9),nI (((zBp most ⟨sns l,fl,gone,N⟩ (zA bs)).n) 10),nI (((zBp most ⟨sns l,fl,gone,N⟩ (zA bs)).n) 11),nI (((zBp most ⟨sns l,fl,gone,N⟩ (zA bs)).n) 12),nI (((zBp most ⟨sns l,fl,gone,N⟩ (zA bs)).n) 13),nI (((zBp most ⟨sns l,fl,gone,N⟩ (zA bs)).n) 14),nI (((zBp most ⟨sns l,fl,gone,N⟩ (zA bs)).n) 15),nI (((zBp most ⟨sns l,fl,gone,N⟩ (zA bs)).n) 16),nI (((zBp most ⟨sns l,fl,gone,N⟩ (zA bs)).n) 17)] 126,blk g [u',nI most,zI ((zBp most ⟨sns l,fl,gone,N⟩ (zA bs)).floor),.bool ((zBp most ⟨sns l,fl,gone,N⟩ (zA bs)).gone)] 188,row u' 191 4 l'.length (l'.flatMap riV),rws 48 l']):=by
 have hbl:bs.length = m:=by have:=hb.len;simpa [zC] using this
 have hbe:m ≤ maxLen:=hb.le
 simp only [maxLen] at hbe
 have hrw:(rws 48 l).p w0:=hM _ (by simp)
 have hiv:=zEA hrw
 have hsr:=ho.srt
 have hll:l.length ≤ most:=by have:=ho.le;rw [zAL] at this;omega
 have hm64:=ho.m64
 have hm1:=ho.m1
 have he17:=zZF (l:=sns l) (most:=most) (fl:=fl) (gone:=gone) (bs:=bs)
 have hN0:=hN 0
 have hN1:=hN 1
 have hN2:=hN 2
 have hN3:=hN 3
 have hN4:=hN 4
 have hN5:=hN 5
 have hN6:=hN 6
 have hN7:=hN 7
 have hN8:=hN 8
 have hN9:=hN 9
 have hN10:=hN 10
 have hN11:=hN 11
 have hN12:=hN 12
 have hN13:=hN 13
 have hN14:=hN 14
 have hN15:=hN 15
 have hN16:=hN 16
 have hN17:=hN 17
 refine zD (F0:=[(0,pt p 0),(1,v)]) func38 rfl rfl rfl (.c (.c .n)) (Mem.start hM rfl hnd) ?_
 refine go 7 [] [12,11,0] .n ?_
 intro a w hs;refine zK hs (.c rfl (.c rfl .n)) call61 .n (zXL p g _ l most fl gone N _ _ bs _ (hs.mem.del .z) (hs.mem.del (.s .z)) (zO (hs.mem.del (.s (.s .z)))) (hs.mem.del (.s (.s (.s .z)))) ho (hs.rd0 hb)) rfl ?_;clear hs w a;rintro _ _ a w ⟨X1,v2,rfl,hX3,rfl⟩ hs
 revert a w hs
 refine goL 4 [] [6,15,14,0] .n (fun g4=>?_)
 intro a w hs;refine zAg hs rfl rfl .z (.z (.c (.c (.c .n)))) (zH rfl (zH rfl (zH (zO (hs.mem.del (.s .z))).isSl.one zAf))) sizeOf46 rfl ?_
 refine goL 3 [] [17,7,6,0] .n ?_
 refine ifG rfl (fun c_5=>?_) (fun c_5=>?_)
 ·
  have h0:(zBF (sns l) most fl gone (zA bs)) = 0:=by omega
  have hXe:=hX3 h0;subst hXe
  have hlp:=zXB h0;have hA0:=(zI9 h0).2.2.2.2.1;have hAr:=zWD hA0
  refine cl (·.sub (F':=[(6,pt g4 0),(0,pt p 0)]) (.c rfl (.c rfl .n))) ?_
  intro a w hs
  refine zIg (Γ:=Value) (M0:=[blk g4 [zI ((zAP (sns l) (zA bs)).t),zI ((zAP (sns l) (zA bs)).tm),v2] 46,row v2 48 9 ((zAP (sns l) (zA bs)).l.length) ((zAP (sns l) (zA bs)).l.flatMap zA9),blk p [pt g 0,nI most,nI (N 0),nI (N 1),nI (N 2),nI (N 3),nI (N 4),nI (N 5),nI (N 6),nI (N 7),nI (N 8),nI (N 9),nI (N 10),nI (N 11),nI (N 12),nI (N 13),nI (N 14),nI (N 15),nI (N 16),nI (N 17)] 126,rws 48 l]) (Ds:=fun gs=>[Pv 0 (pt p 0),Pv 1 (pt p 0),Pv 2 (pt p 0),Pv 3 (pt g 0),Pv 4 (pt g4 0),Pv 5 (zI ((zAP (sns l) (zA bs)).t)),Pv 6 (.agg #[zI ((zAP (sns l) (zA bs)).t),zI ((zAP (sns l) (zA bs)).tm),v2]),⟨[],[],[],fun vs6=>vs6 7 = .agg #[zI ((zAP (sns l) (zA bs)).t),zI ((zAP (sns l) (zA bs)).tm),(zGg 2 (vs6 7))],fun vs6=>[row (zGg 2 (vs6 7)) 48 9 (((zAP (sns l) (zA bs)).l).length) (((zAP (sns l) (zA bs)).l).flatMap zA9)],none⟩,⟨[row u 191 4 l.length (l.flatMap riV),blk g [u,nI most,zI fl,.bool (gone)] 188],[],[7],fun vs6=>vs6 8 = .tuple #[zI (zHf l most (⟨(zAP (sns l) (zA bs)).t,(zAP (sns l) (zA bs)).tm,((zAP (sns l) (zA bs)).l),(zGg 2 (vs6 7))⟩ : RI)),.bool (zHs l most (⟨(zAP (sns l) (zA bs)).t,(zAP (sns l) (zA bs)).tm,((zAP (sns l) (zA bs)).l),(zGg 2 (vs6 7))⟩ : RI)),zI 0],fun vs6=>[blk g [(gs 8),nI most,zI (zIv l most fl (⟨(zAP (sns l) (zA bs)).t,(zAP (sns l) (zA bs)).tm,((zAP (sns l) (zA bs)).l),(zGg 2 (vs6 7))⟩ : RI)),.bool (zIt l most gone (⟨(zAP (sns l) (zA bs)).t,(zAP (sns l) (zA bs)).tm,((zAP (sns l) (zA bs)).l),(zGg 2 (vs6 7))⟩ : RI))] 188,row (gs 8) 191 4 ((zGh l most (⟨(zAP (sns l) (zA bs)).t,(zAP (sns l) (zA bs)).tm,((zAP (sns l) (zA bs)).l),(zGg 2 (vs6 7))⟩ : RI)).length) ((zGh l most (⟨(zAP (sns l) (zA bs)).t,(zAP (sns l) (zA bs)).tm,((zAP (sns l) (zA bs)).l),(zGg 2 (vs6 7))⟩ : RI)).flatMap riV)],none⟩,⟨[],[],[7],fun vs6=>vs6 9 = .tuple #[zI (zHf l most (⟨(zAP (sns l) (zA bs)).t,(zAP (sns l) (zA bs)).tm,((zAP (sns l) (zA bs)).l),(zGg 2 (vs6 7))⟩ : RI)),.bool (zHs l most (⟨(zAP (sns l) (zA bs)).t,(zAP (sns l) (zA bs)).tm,((zAP (sns l) (zA bs)).l),(zGg 2 (vs6 7))⟩ : RI)),zI 0],fun vs6=>[],none⟩,⟨[],[],[7],fun vs6=>vs6 10 = zI (zHf l most (⟨(zAP (sns l) (zA bs)).t,(zAP (sns l) (zA bs)).tm,((zAP (sns l) (zA bs)).l),(zGg 2 (vs6 7))⟩ : RI)),fun vs6=>[],none⟩,⟨[],[],[7],fun vs6=>vs6 11 = .bool (zHs l most (⟨(zAP (sns l) (zA bs)).t,(zAP (sns l) (zA bs)).tm,((zAP (sns l) (zA bs)).l),(zGg 2 (vs6 7))⟩ : RI)),fun vs6=>[],none⟩,Pv 12 (zI 0),Pv 13 (zI 0)]) [[],[],[],[],[],[],[],[],[8],[],[],[],[],[]] (.slice none 0 0:Value) (by kernel_rfl) hs rfl (.c (.s (.s (.s (.s .z)))) (.c (.s (.s (.s .z))) .n)) (by kernel_rfl) (fun _=>by kernel_rfl) (fun _ _=>rfl) (fun us_ us'_=>(.c (fun _=>rfl) (.c (fun _=>rfl) (.c (fun _=>rfl) (.c (fun _=>rfl) (.c (fun _=>rfl) (.c (fun _=>rfl) (.c (fun _=>rfl) (.c (fun _=>rfl) (.c (fun h=>by have e8:=h 8 (by simp);simp only [e8]) (.c (fun _=>rfl) (.c (fun _=>rfl) (.c (fun _=>rfl) (.c (fun _=>rfl) (.c (fun _=>rfl) .n))))))))))))))) (by kernel_rfl) rfl (by kernel_rfl) (fun gs=>?_) ?_
  ·
   refine (.c ?_ (.c ?_ (.c ?_ (.c ?_ (.c ?_ (.c ?_ (.c ?_ (.c ?_ (.g ?_ (.c ?_ (.c ?_ (.c ?_ (.c ?_ (.c ?_ .n))))))))))))))
   · exact zAn (m:=14) .n (fun hm0 hm hx=>.n) (by kernel_rfl) (by kernel_rfl) rfl
   · exact zAn (m:=14) (.c (k:=0) (by kernel_rfl) rfl rfl .n) (fun hm0 hm hx=>.n) (by kernel_rfl) (by kernel_rfl) rfl
   · exact zAn (m:=14) (.c (k:=1) (by kernel_rfl) rfl rfl .n) (fun hm0 hm hx=>.n) (by kernel_rfl) (by kernel_rfl) rfl
   · exact zAn (m:=14) (.c (k:=2) (by kernel_rfl) rfl rfl .n) (fun hm0 hm hx=>(.c (hm0.del (.s (.s .z))))) (by kernel_rfl) (by kernel_rfl) rfl
   · exact zAn (m:=14) .n (fun hm0 hm hx=>.n) (by kernel_rfl) (by kernel_rfl) rfl
   · exact zAn (m:=14) (.c (k:=4) (by kernel_rfl) rfl rfl .n) (fun hm0 hm hx=>(.c (hm0.del .z))) (by kernel_rfl) (by kernel_rfl) rfl
   · exact zAn (m:=14) .n (fun hm0 hm hx=>(.c (hm0.del .z))) (by kernel_rfl) (by kernel_rfl) rfl
   ·
    intro a_ w_ R_ rest_ vs6 hm hs ht hx
    have hm0:=hm.mid
    replace hs:=hs.lrn (ht 6 (zJ 14 _ (by kernel_rfl))) rfl rfl
    have hs0:=hs.bare
    refine zK hs (.c rfl .n) call63 .n (zSS ((zAP (sns l) (zA bs)).t) ((zAP (sns l) (zA bs)).tm) _ ((zAP (sns l) (zA bs)).l) _ (zO (hm0.del (.s .z))) (by omega)) rfl ?_;clear hs;rintro _ _ a w ⟨v7,rfl,rfl⟩ hs
    exact wpList_nil ⟨rfl,_,_,hs0,(.c .r),hs,rfl⟩
   ·
    intro a_ w_ R_ rest_ vs6 hm hs ht hx
    replace hs:St _ _ _ (zL [row u 191 4 l.length (l.flatMap riV),blk g [u,nI most,zI fl,.bool (gone)] 188]) [row u 191 4 l.length (l.flatMap riV),blk g [u,nI most,zI fl,.bool (gone)] 188] _ _:=hs
    have hm0:=hm.mid
    replace hs:=hs.lrn (ht 3 (zJ 14 _ (by kernel_rfl))) rfl rfl
    replace hs:=hs.lrn (ht 5 (zJ 14 _ (by kernel_rfl))) rfl rfl
    have t7:=ht 7 (zJ 14 _ (by kernel_rfl))
    have e7:_ = some (vs6 7):=t7.val rfl
    rw [show vs6 7 = .agg #[zI ((zAP (sns l) (zA bs)).t),zI ((zAP (sns l) (zA bs)).tm),(zGg 2 (vs6 7))] from t7.2.1] at e7
    replace hs:=hs.learn e7
    have hs0:=hs.bare
    refine zK hs (.c rfl (.c rfl (.c rfl .n))) call62 (.c .z (.c .z .n)) (zO9 g u l most fl gone (⟨(zAP (sns l) (zA bs)).t,(zAP (sns l) (zA bs)).tm,((zAP (sns l) (zA bs)).l),(zGg 2 (vs6 7))⟩ : RI) _ (hs.mem.del .z) (hs.mem.del (.s .z)) (hs.mem.ndX (.c .z (.c .z .n))) hsr hll hm64 hm1 hiv (zO (hm.own (List.mem_append.2 (.inr ((ht 7 (zJ 14 _ (by kernel_rfl))).2.2 (zIG (n:=14) (by kernel_rfl)) _ (List.Mem.head _)))))).isSl hlp.1 hlp.2.1 hlp.2.2) rfl ?_;clear hs;rintro _ _ a w ⟨v8,rfl,rfl⟩ hs
    exact wpList_nil ⟨rfl,(v8),_,_,hs0,(.c (.c (.c .r))),hs,rfl⟩
   ·
    intro a_ w_ R_ rest_ vs6 hm hs ht hx
    have hm0:=hm.mid
    have t8:=ht 8 (zJ 14 _ (by kernel_rfl))
    have e8:_ = some (vs6 8):=t8.val rfl
    rw [show vs6 8 = .tuple #[zI (zHf l most (⟨(zAP (sns l) (zA bs)).t,(zAP (sns l) (zA bs)).tm,((zAP (sns l) (zA bs)).l),(zGg 2 (vs6 7))⟩ : RI)),.bool (zHs l most (⟨(zAP (sns l) (zA bs)).t,(zAP (sns l) (zA bs)).tm,((zAP (sns l) (zA bs)).l),(zGg 2 (vs6 7))⟩ : RI)),zI 0] from t8.2.1] at e8
    replace hs:=hs.learn e8
    have hs0:=hs.bare
    refine zGH hs rfl rfl ?_;clear hs;intro a w hs
    exact wpList_nil ⟨rfl,_,_,hs0,(.c .r),hs,rfl⟩
   ·
    intro a_ w_ R_ rest_ vs6 hm hs ht hx
    have hm0:=hm.mid
    have t9:=ht 9 (zJ 14 _ (by kernel_rfl))
    have e9:_ = some (vs6 9):=t9.val rfl
    rw [show vs6 9 = .tuple #[zI (zHf l most (⟨(zAP (sns l) (zA bs)).t,(zAP (sns l) (zA bs)).tm,((zAP (sns l) (zA bs)).l),(zGg 2 (vs6 7))⟩ : RI)),.bool (zHs l most (⟨(zAP (sns l) (zA bs)).t,(zAP (sns l) (zA bs)).tm,((zAP (sns l) (zA bs)).l),(zGg 2 (vs6 7))⟩ : RI)),zI 0] from t9.2.1] at e9
    replace hs:=hs.learn e9
    have hs0:=hs.bare
    refine zHV hs rfl .z rfl ?_;clear hs;intro a w hs
    exact wpList_nil ⟨rfl,_,_,hs0,(.c .r),hs,rfl⟩
   ·
    intro a_ w_ R_ rest_ vs6 hm hs ht hx
    have hm0:=hm.mid
    have t9:=ht 9 (zJ 14 _ (by kernel_rfl))
    have e9:_ = some (vs6 9):=t9.val rfl
    rw [show vs6 9 = .tuple #[zI (zHf l most (⟨(zAP (sns l) (zA bs)).t,(zAP (sns l) (zA bs)).tm,((zAP (sns l) (zA bs)).l),(zGg 2 (vs6 7))⟩ : RI)),.bool (zHs l most (⟨(zAP (sns l) (zA bs)).t,(zAP (sns l) (zA bs)).tm,((zAP (sns l) (zA bs)).l),(zGg 2 (vs6 7))⟩ : RI)),zI 0] from t9.2.1] at e9
    replace hs:=hs.learn e9
    have hs0:=hs.bare
    refine zHV hs rfl (.s .z) rfl ?_;clear hs;intro a w hs
    exact wpList_nil ⟨rfl,_,_,hs0,(.c .r),hs,rfl⟩
   ·
    intro a_ w_ R_ rest_ vs6 hm hs ht hx
    have hm0:=hm.mid
    have t9:=ht 9 (zJ 14 _ (by kernel_rfl))
    have e9:_ = some (vs6 9):=t9.val rfl
    rw [show vs6 9 = .tuple #[zI (zHf l most (⟨(zAP (sns l) (zA bs)).t,(zAP (sns l) (zA bs)).tm,((zAP (sns l) (zA bs)).l),(zGg 2 (vs6 7))⟩ : RI)),.bool (zHs l most (⟨(zAP (sns l) (zA bs)).t,(zAP (sns l) (zA bs)).tm,((zAP (sns l) (zA bs)).l),(zGg 2 (vs6 7))⟩ : RI)),zI 0] from t9.2.1] at e9
    replace hs:=hs.learn e9
    have hs0:=hs.bare
    refine zHV hs rfl (.s (.s .z)) rfl ?_;clear hs;intro a w hs
    exact wpList_nil ⟨rfl,_,_,hs0,(.c .r),hs,rfl⟩
   exact zAn (m:=14) (.c (k:=12) (by kernel_rfl) rfl rfl .n) (fun hm0 hm hx=>.n) (by kernel_rfl) (by kernel_rfl) rfl
  clear hs w a;intro a w vs6 gs hs hf
  replace hs:St _ _ _ _ [blk g4 [zI ((zAP (sns l) (zA bs)).t),zI ((zAP (sns l) (zA bs)).tm),v2] 46,row v2 48 9 ((zAP (sns l) (zA bs)).l.length) ((zAP (sns l) (zA bs)).l.flatMap zA9),blk p [pt g 0,nI most,nI (N 0),nI (N 1),nI (N 2),nI (N 3),nI (N 4),nI (N 5),nI (N 6),nI (N 7),nI (N 8),nI (N 9),nI (N 10),nI (N 11),nI (N 12),nI (N 13),nI (N 14),nI (N 15),nI (N 16),nI (N 17)] 126,rws 48 l,row (zGg 2 (vs6 7)) 48 9 (((zAP (sns l) (zA bs)).l).length) (((zAP (sns l) (zA bs)).l).flatMap zA9),blk g [(gs 8),nI most,zI (zIv l most fl (⟨(zAP (sns l) (zA bs)).t,(zAP (sns l) (zA bs)).tm,((zAP (sns l) (zA bs)).l),(zGg 2 (vs6 7))⟩ : RI)),.bool (zIt l most gone (⟨(zAP (sns l) (zA bs)).t,(zAP (sns l) (zA bs)).tm,((zAP (sns l) (zA bs)).l),(zGg 2 (vs6 7))⟩ : RI))] 188,row (gs 8) 191 4 ((zGh l most (⟨(zAP (sns l) (zA bs)).t,(zAP (sns l) (zA bs)).tm,((zAP (sns l) (zA bs)).l),(zGg 2 (vs6 7))⟩ : RI)).length) ((zGh l most (⟨(zAP (sns l) (zA bs)).t,(zAP (sns l) (zA bs)).tm,((zAP (sns l) (zA bs)).l),(zGg 2 (vs6 7))⟩ : RI)).flatMap riV)] _ _:=hs
  obtain ⟨e13,q13⟩:=hf 13 (by decide)
  replace e13:_ = some (vs6 13):=e13.val rfl
  rw [show vs6 13 = zI 0 from q13] at e13
  replace hs:=hs.learn e13;clear e13 q13
  generalize (gs 8) = v9 at hs
  generalize zGg 2 (vs6 7) = v10 at hs
  clear hf
  revert a w hs
  refine goE 0 [] [7,6,0] .n ?_
  intro a w hs
  refine zR [.p [] [],.p [] [],.p [0] [],.p [2] [],.p [3,1] [],.l [4] [0] [10] [],.p [5] [],.p [0] [],.p [7] [],.p [8,1] [],.s [9,6] [0] [0] []] [] hs (.c (.s (.s .z)) .n) .n (by kernel_rfl) ⟨rfl,(by have:=hN (zBF (sns l) most fl gone (zA bs));omega),rfl,⟨rfl,by kernel_rfl,fun _=>rfl,rfl,rfl,trivial⟩,fun _=>rfl,?_⟩
  refine zck 6 2 [] [42,7,6] .n ?_
  refine go 5 [0] [5,4] (.c .z .n) ⟨rfl,?_⟩
  refine cl (·.rwsLay (most:=most) (x:=(⟨(zAP (sns l) (zA bs)).t,(zAP (sns l) (zA bs)).tm,((zAP (sns l) (zA bs)).l),v10⟩ : RI)) (.c (.s (.s .z)) (.c (.s (.s .z)) .n))) ?_
  refine cl (·.drop (.c (.s (.s .z)) (.c (.s .z) .n))) ?_
  refine cl (·.reorder (.c (.s (.s (.s .z))) (.c (.s .z) (.c (.s .z) (.c .z .n))))) ?_
  refine cl (·.reblk .z (cs':=[pt g 0,nI most,nI (zBG N 0 0),nI (zBG N 0 1),nI (zBG N 0 2),nI (zBG N 0 3),nI (zBG N 0 4),nI (zBG N 0 5),nI (zBG N 0 6),nI (zBG N 0 7),nI (zBG N 0 8),nI (zBG N 0 9),nI (zBG N 0 10),nI (zBG N 0 11),nI (zBG N 0 12),nI (zBG N 0 13),nI (zBG N 0 14),nI (zBG N 0 15),nI (zBG N 0 16),nI (zBG N 0 17)]) rfl) ?_
  obtain ⟨hT_,hS_⟩:=zVd (N:=N) v10 h0
  intro a w hs;exact zBK hs rfl rfl rfl ⟨by rw [hT_,h0];rfl,_,zGh l most (⟨(zAP (sns l) (zA bs)).t,(zAP (sns l) (zA bs)).tm,((zAP (sns l) (zA bs)).l),v10⟩ : RI),by rw [hS_],by rw [hS_]⟩
 refine go 0 [] [7,6,0] .n ?_
 intro a w hs
 refine zAU [.p [] [],.p [] [],.p [0] [],.p [2] [],.v [3,1] (pt p (2 + (zBF (sns l) most fl gone (zA bs)))),.y [4] (nI (N (zBF (sns l) most fl gone (zA bs)))) [] [] [] fun vs12=>[],.p [5] [],.p [0] [],.p [7] [],.v [8,1] (pt p (2 + (zBF (sns l) most fl gone (zA bs)))),.x [9,6] ⟨[blk p [pt g 0,nI most,nI (N 0),nI (N 1),nI (N 2),nI (N 3),nI (N 4),nI (N 5),nI (N 6),nI (N 7),nI (N 8),nI (N 9),nI (N 10),nI (N 11),nI (N 12),nI (N 13),nI (N 14),nI (N 15),nI (N 16),nI (N 17)] 126],[],[],fun vs12=>True,fun vs12=>[blk p [pt g 0,nI most,nI (zBG N (zBF (sns l) most fl gone (zA bs)) 0),nI (zBG N (zBF (sns l) most fl gone (zA bs)) 1),nI (zBG N (zBF (sns l) most fl gone (zA bs)) 2),nI (zBG N (zBF (sns l) most fl gone (zA bs)) 3),nI (zBG N (zBF (sns l) most fl gone (zA bs)) 4),nI (zBG N (zBF (sns l) most fl gone (zA bs)) 5),nI (zBG N (zBF (sns l) most fl gone (zA bs)) 6),nI (zBG N (zBF (sns l) most fl gone (zA bs)) 7),nI (zBG N (zBF (sns l) most fl gone (zA bs)) 8),nI (zBG N (zBF (sns l) most fl gone (zA bs)) 9),nI (zBG N (zBF (sns l) most fl gone (zA bs)) 10),nI (zBG N (zBF (sns l) most fl gone (zA bs)) 11),nI (zBG N (zBF (sns l) most fl gone (zA bs)) 12),nI (zBG N (zBF (sns l) most fl gone (zA bs)) 13),nI (zBG N (zBF (sns l) most fl gone (zA bs)) 14),nI (zBG N (zBF (sns l) most fl gone (zA bs)) 15),nI (zBG N (zBF (sns l) most fl gone (zA bs)) 16),nI (zBG N (zBF (sns l) most fl gone (zA bs)) 17)] 126],none⟩] [] hs .n (.c (.s (.s .z)) .n) .n (by kernel_rfl) ⟨fun _ _ _ _ hm hs K=>zSA (j:=zBF (sns l) most fl gone (zA bs)) hs rfl rfl underlying124 (by omega) sizeOf3 rfl (vk K),(by have:=hN (zBF (sns l) most fl gone (zA bs));omega),fun _ _ _ _ hm hs K=>zSA (j:=zBF (sns l) most fl gone (zA bs)) hs rfl rfl underlying124 (by omega) sizeOf3 rfl (vk K),⟨(.c .z .n),by kernel_rfl,fun _=>rfl,rfl,rfl⟩,⟨?_,?_,trivial⟩,?_⟩
 ·
  intro a_ w_ R_ rest_ vs12 hm hs ht hx
  have hs0:=hs.bare
  refine zKK (v:=nI (N (zBF (sns l) most fl gone (zA bs)))) hs rfl (hm.own (List.mem_append.2 (.inr ((hx 10 (zJ 11 _ (by kernel_rfl))).1 _ (List.Mem.head _))))) (zYv (by omega)) isAgg3 rfl ?_;clear hs;intro a w hs
  exact wpList_nil ⟨rfl,_,_,hs0,(.c .r),hs,rfl⟩
 ·
  intro a_ w_ R_ rest_ vs12 hm hs ht hx
  have hs0:=hs.bare
  refine zQb (cs':=[pt g 0,nI most,nI (zBG N (zBF (sns l) most fl gone (zA bs)) 0),nI (zBG N (zBF (sns l) most fl gone (zA bs)) 1),nI (zBG N (zBF (sns l) most fl gone (zA bs)) 2),nI (zBG N (zBF (sns l) most fl gone (zA bs)) 3),nI (zBG N (zBF (sns l) most fl gone (zA bs)) 4),nI (zBG N (zBF (sns l) most fl gone (zA bs)) 5),nI (zBG N (zBF (sns l) most fl gone (zA bs)) 6),nI (zBG N (zBF (sns l) most fl gone (zA bs)) 7),nI (zBG N (zBF (sns l) most fl gone (zA bs)) 8),nI (zBG N (zBF (sns l) most fl gone (zA bs)) 9),nI (zBG N (zBF (sns l) most fl gone (zA bs)) 10),nI (zBG N (zBF (sns l) most fl gone (zA bs)) 11),nI (zBG N (zBF (sns l) most fl gone (zA bs)) 12),nI (zBG N (zBF (sns l) most fl gone (zA bs)) 13),nI (zBG N (zBF (sns l) most fl gone (zA bs)) 14),nI (zBG N (zBF (sns l) most fl gone (zA bs)) 15),nI (zBG N (zBF (sns l) most fl gone (zA bs)) 16),nI (zBG N (zBF (sns l) most fl gone (zA bs)) 17)]) hs rfl rfl .z (by show 2 + zBF (sns l) most fl gone (zA bs) < 20;omega) (zZd (by omega)) rfl sizeOf3 ?_;clear hs;intro a w hs
  exact wpList_nil ⟨rfl,.tuple #[],_,hs0,(.c (.c .r)),hs,trivial⟩
 clear hs w a;intro vs12 a w hs hf
 clear hf
 revert a w hs
 refine zck 6 2 [] [42,7,6] .n ?_
 have hb_:(!((((zBF (sns l) most fl gone (zA bs):Nat):Int):Int) == 0)) = true:=by rw [Bool.not_eq_true',beq_eq_false_iff_ne];omega
 intro a w hs;rw [hb_] at hs;clear hb_
 revert a w hs
 refine go 4 [] [5,4] .n ?_
 refine cl (·.drop (.c (.s .z) (.c .z .n))) ?_
 refine cl (·.reorder (.c (.s (.s (.s .z))) (.c .z (.c .z (.c .z .n))))) ?_
 obtain ⟨hT_,hS_⟩:=zX5 (N:=N) (rfl:(zBF (sns l) most fl gone (zA bs)) = _) (by omega)
 intro a w hs;exact zBK hs rfl rfl rfl ⟨by rw [hT_],_,l,by rw [hS_],by rw [hS_]⟩
end Go.Proofs.YtajjkegcfmhghaaGreat
/- Walks of what a store tells: what each function does, over the program of this seat. Printed by a program of this session. -/
namespace Go.Proofs.YtajjkegcfmhghaaGreat
open Tryz
open Go Go.Sx Go.RowKit
set_option linter.unusedVariables false
set_option linter.unusedSimpArgs false
set_option maxRecDepth 4000
set_option maxHeartbeats 1000000

def zZ7 (p g:Nat) (u:Value) (l:List RI) (most:Nat) (fl:Int) (gone:Bool) (N:Nat → Nat):List HA:=[blk p [pt g 0,nI most,nI (N 0),nI (N 1),nI (N 2),nI (N 3),nI (N 4),nI (N 5),nI (N 6),nI (N 7),nI (N 8),nI (N 9),nI (N 10),nI (N 11),nI (N 12),nI (N 13),nI (N 14),nI (N 15),nI (N 16),nI (N 17)] 126,blk g [u,nI most,zI fl,.bool (gone)] 188,row u 191 4 l.length (l.flatMap riV),rws 48 l]
def Sto (p most:Nat) (σ:Stt) (X:HA):Prop:=∃ (g:Nat) (u:Value) (l:List RI),σ.l = sns l ∧ Oks σ.l most ∧ X = zF9 (zZ7 p g u l most σ.floor σ.gone σ.n)
theorem zYF (p g:Nat) (u:Value) (l:List RI) (most:Nat) (fl:Int) (gone:Bool) (N:Nat → Nat) (w0:World) (hp:(blk p [pt g 0,nI most,nI (N 0),nI (N 1),nI (N 2),nI (N 3),nI (N 4),nI (N 5),nI (N 6),nI (N 7),nI (N 8),nI (N 9),nI (N 10),nI (N 11),nI (N 12),nI (N 13),nI (N 14),nI (N 15),nI (N 16),nI (N 17)] 126).p w0) (hg:(blk g [u,nI most,zI fl,.bool (gone)] 188).p w0) (hu:Rd w0 [] u 4 l.length (l.flatMap riV)) (hrw:(rws 48 l).p w0) (ho:Oks (sns l) most):Calls Tryz.prog 56 #[pt p 0] w0 (zAe w0 (nI l.length)):=by
 have hiv:=zEA hrw
 have hsr:=ho.srt
 have hll:l.length ≤ 100000:=by have:=ho.le;have:=ho.m64;rw [zAL] at *;omega
 have hm64:=ho.m64
 refine zD (F0:=[(0,pt p 0)]) func56 rfl rfl rfl (.c .n) (Mem.nil _) ?_
 refine go 7 [] [7] .n ?_
 intro a w hs;refine zU hs rfl (hs.mem.keep hp (by simp [zL,blk])) .z isAgg123 rfl ?_
 intro a w hs;refine zB (v:=nI l.length) hs (.c rfl .n) call86 (zCd g _ l most fl gone _ (hs.rd0 hu) (hs.mem.keep hg (by simp [zL,blk])) hsr (by omega) hiv) rfl ?_
 refine goL 1 [] [2] .n ?_
 intro a w hs;exact fin hs rfl rfl ⟨rfl,rfl⟩
theorem zQD (p g:Nat) (u:Value) (l:List RI) (most:Nat) (fl:Int) (gone:Bool) (N:Nat → Nat) (w0:World) (hp:(blk p [pt g 0,nI most,nI (N 0),nI (N 1),nI (N 2),nI (N 3),nI (N 4),nI (N 5),nI (N 6),nI (N 7),nI (N 8),nI (N 9),nI (N 10),nI (N 11),nI (N 12),nI (N 13),nI (N 14),nI (N 15),nI (N 16),nI (N 17)] 126).p w0) (hg:(blk g [u,nI most,zI fl,.bool (gone)] 188).p w0) (hu:Rd w0 [] u 4 l.length (l.flatMap riV)) (hrw:(rws 48 l).p w0) (ho:Oks (sns l) most):Calls Tryz.prog 37 #[pt p 0] w0 (zAe w0 (nI (N 0))):=by
 have hiv:=zEA hrw
 have hsr:=ho.srt
 have hll:l.length ≤ 100000:=by have:=ho.le;have:=ho.m64;rw [zAL] at *;omega
 have hm64:=ho.m64
 refine zD (F0:=[(0,pt p 0)]) func37 rfl rfl rfl (.c .n) (Mem.nil _) ?_
 refine go 8 [] [8] .n ?_
 intro a w hs;refine zU hs rfl (hs.mem.keep hp (by simp [zL,blk])) (.s (.s .z)) isAgg3 rfl ?_
 refine goL 1 [] [2] .n ?_
 intro a w hs;exact fin hs rfl rfl ⟨rfl,rfl⟩
theorem zMs (p g:Nat) (u:Value) (l:List RI) (most:Nat) (fl:Int) (gone:Bool) (N:Nat → Nat) (e:Int) (w0:World) (hp:(blk p [pt g 0,nI most,nI (N 0),nI (N 1),nI (N 2),nI (N 3),nI (N 4),nI (N 5),nI (N 6),nI (N 7),nI (N 8),nI (N 9),nI (N 10),nI (N 11),nI (N 12),nI (N 13),nI (N 14),nI (N 15),nI (N 16),nI (N 17)] 126).p w0) (hg:(blk g [u,nI most,zI fl,.bool (gone)] 188).p w0) (hu:Rd w0 [] u 4 l.length (l.flatMap riV)) (hrw:(rws 48 l).p w0) (ho:Oks (sns l) most) (he : -9223372036854775808 ≤ e ∧ e ≤ 9223372036854775807):Calls Tryz.prog 36 #[pt p 0,.int .i64 e] w0 (zAe w0 (nI (zFY N e))):=by
 refine zD (F0:=[(0,pt p 0),(1,zI e)]) func36 rfl rfl rfl (.c (.c .n)) (Mem.nil _) ?_
 refine go 8 [] [11,0,1] .n ?_
 intro a w hs;refine zY (b:=decide (e ≤ 0)) (fun c_1=>?_) (fun c_1=>?_)
 ·
  rw [c_1] at hs
  replace c_1:=of_decide_eq_true c_1
  revert a w hs
  refine go 5 [] [4] .n ?_
  intro a w hs;exact fin hs rfl rfl ⟨by rw [show zFY N e = 0 from if_neg (by omega)];rfl,rfl⟩
 rw [c_1] at hs
 replace c_1:=of_decide_eq_false c_1
 revert a w hs
 refine go 3 [] [14,0,1] .n ?_
 refine ifG rfl (fun c_2=>?_) (fun c_2=>?_)
 ·
  refine go 1 [] [4] .n ?_
  intro a w hs;exact fin hs rfl rfl ⟨by rw [show zFY N e = 0 from if_neg (by omega)];rfl,rfl⟩
 refine cl (·.sub (F':=[(0,pt p 0),(1,zI e)]) (.c rfl (.c rfl .n))) ?_
 refine go 0 [] [0,1] .n ?_
 rcases (show e = 1 ∨ e = 2 ∨ e = 3 ∨ e = 4 ∨ e = 5 ∨ e = 6 ∨ e = 7 ∨ e = 8 ∨ e = 9 ∨ e = 10 ∨ e = 11 ∨ e = 12 ∨ e = 13 ∨ e = 14 ∨ e = 15 ∨ e = 16 ∨ e = 17 from by omega) with hk3 | hk3 | hk3 | hk3 | hk3 | hk3 | hk3 | hk3 | hk3 | hk3 | hk3 | hk3 | hk3 | hk3 | hk3 | hk3 | hk3
 ·
  intro a w hs;rw [hk3] at hs
  revert a w hs
  refine go 5 [] [19] .n ?_
  intro a w hs;refine zU hs rfl (hs.mem.keep hp (by simp [zL,blk])) (.s (.s (.s .z))) isAgg3 rfl ?_
  refine goL 1 [] [4] .n ?_
  intro a w hs;exact fin hs rfl rfl ⟨by rw [show zFY N e = N 1 from by rw [hk3];rfl],rfl⟩
 ·
  intro a w hs;rw [hk3] at hs
  revert a w hs
  refine go 5 [] [19] .n ?_
  intro a w hs;refine zU hs rfl (hs.mem.keep hp (by simp [zL,blk])) (.s (.s (.s (.s .z)))) isAgg3 rfl ?_
  refine goL 1 [] [4] .n ?_
  intro a w hs;exact fin hs rfl rfl ⟨by rw [show zFY N e = N 2 from by rw [hk3];rfl],rfl⟩
 ·
  intro a w hs;rw [hk3] at hs
  revert a w hs
  refine go 5 [] [19] .n ?_
  intro a w hs;refine zU hs rfl (hs.mem.keep hp (by simp [zL,blk])) (.s (.s (.s (.s (.s .z))))) isAgg3 rfl ?_
  refine goL 1 [] [4] .n ?_
  intro a w hs;exact fin hs rfl rfl ⟨by rw [show zFY N e = N 3 from by rw [hk3];rfl],rfl⟩
 ·
  intro a w hs;rw [hk3] at hs
  revert a w hs
  refine go 5 [] [19] .n ?_
  intro a w hs;refine zU hs rfl (hs.mem.keep hp (by simp [zL,blk])) (.s (.s (.s (.s (.s (.s .z)))))) isAgg3 rfl ?_
  refine goL 1 [] [4] .n ?_
  intro a w hs;exact fin hs rfl rfl ⟨by rw [show zFY N e = N 4 from by rw [hk3];rfl],rfl⟩
 ·
  intro a w hs;rw [hk3] at hs
  revert a w hs
  refine go 5 [] [19] .n ?_
  intro a w hs;refine zU hs rfl (hs.mem.keep hp (by simp [zL,blk])) (.s (.s (.s (.s (.s (.s (.s .z))))))) isAgg3 rfl ?_
  refine goL 1 [] [4] .n ?_
  intro a w hs;exact fin hs rfl rfl ⟨by rw [show zFY N e = N 5 from by rw [hk3];rfl],rfl⟩
 ·
  intro a w hs;rw [hk3] at hs
  revert a w hs
  refine go 5 [] [19] .n ?_
  intro a w hs;refine zU hs rfl (hs.mem.keep hp (by simp [zL,blk])) (.s (.s (.s (.s (.s (.s (.s (.s .z)))))))) isAgg3 rfl ?_
  refine goL 1 [] [4] .n ?_
  intro a w hs;exact fin hs rfl rfl ⟨by rw [show zFY N e = N 6 from by rw [hk3];rfl],rfl⟩
 ·
  intro a w hs;rw [hk3] at hs
  revert a w hs
  refine go 5 [] [19] .n ?_
  intro a w hs;refine zU hs rfl (hs.mem.keep hp (by simp [zL,blk])) (.s (.s (.s (.s (.s (.s (.s (.s (.s .z))))))))) isAgg3 rfl ?_
  refine goL 1 [] [4] .n ?_
  intro a w hs;exact fin hs rfl rfl ⟨by rw [show zFY N e = N 7 from by rw [hk3];rfl],rfl⟩
 ·
  intro a w hs;rw [hk3] at hs
  revert a w hs
  refine go 5 [] [19] .n ?_
  intro a w hs;refine zU hs rfl (hs.mem.keep hp (by simp [zL,blk])) (.s (.s (.s (.s (.s (.s (.s (.s (.s (.s .z)))))))))) isAgg3 rfl ?_
  refine goL 1 [] [4] .n ?_
  intro a w hs;exact fin hs rfl rfl ⟨by rw [show zFY N e = N 8 from by rw [hk3];rfl],rfl⟩
 ·
  intro a w hs;rw [hk3] at hs
  revert a w hs
  refine go 5 [] [19] .n ?_
  intro a w hs;refine zU hs rfl (hs.mem.keep hp (by simp [zL,blk])) (.s (.s (.s (.s (.s (.s (.s (.s (.s (.s (.s .z))))))))))) isAgg3 rfl ?_
  refine goL 1 [] [4] .n ?_
  intro a w hs;exact fin hs rfl rfl ⟨by rw [show zFY N e = N 9 from by rw [hk3];rfl],rfl⟩
 ·
  intro a w hs;rw [hk3] at hs
  revert a w hs
  refine go 5 [] [19] .n ?_
  intro a w hs;refine zU hs rfl (hs.mem.keep hp (by simp [zL,blk])) (.s (.s (.s (.s (.s (.s (.s (.s (.s (.s (.s (.s .z)))))))))))) isAgg3 rfl ?_
  refine goL 1 [] [4] .n ?_
  intro a w hs;exact fin hs rfl rfl ⟨by rw [show zFY N e = N 10 from by rw [hk3];rfl],rfl⟩
 ·
  intro a w hs;rw [hk3] at hs
  revert a w hs
  refine go 5 [] [19] .n ?_
  intro a w hs;refine zU hs rfl (hs.mem.keep hp (by simp [zL,blk])) (.s (.s (.s (.s (.s (.s (.s (.s (.s (.s (.s (.s (.s .z))))))))))))) isAgg3 rfl ?_
  refine goL 1 [] [4] .n ?_
  intro a w hs;exact fin hs rfl rfl ⟨by rw [show zFY N e = N 11 from by rw [hk3];rfl],rfl⟩
 ·
  intro a w hs;rw [hk3] at hs
  revert a w hs
  refine go 5 [] [19] .n ?_
  intro a w hs;refine zU hs rfl (hs.mem.keep hp (by simp [zL,blk])) (.s (.s (.s (.s (.s (.s (.s (.s (.s (.s (.s (.s (.s (.s .z)))))))))))))) isAgg3 rfl ?_
  refine goL 1 [] [4] .n ?_
  intro a w hs;exact fin hs rfl rfl ⟨by rw [show zFY N e = N 12 from by rw [hk3];rfl],rfl⟩
 ·
  intro a w hs;rw [hk3] at hs
  revert a w hs
  refine go 5 [] [19] .n ?_
  intro a w hs;refine zU hs rfl (hs.mem.keep hp (by simp [zL,blk])) (.s (.s (.s (.s (.s (.s (.s (.s (.s (.s (.s (.s (.s (.s (.s .z))))))))))))))) isAgg3 rfl ?_
  refine goL 1 [] [4] .n ?_
  intro a w hs;exact fin hs rfl rfl ⟨by rw [show zFY N e = N 13 from by rw [hk3];rfl],rfl⟩
 ·
  intro a w hs;rw [hk3] at hs
  revert a w hs
  refine go 5 [] [19] .n ?_
  intro a w hs;refine zU hs rfl (hs.mem.keep hp (by simp [zL,blk])) (.s (.s (.s (.s (.s (.s (.s (.s (.s (.s (.s (.s (.s (.s (.s (.s .z)))))))))))))))) isAgg3 rfl ?_
  refine goL 1 [] [4] .n ?_
  intro a w hs;exact fin hs rfl rfl ⟨by rw [show zFY N e = N 14 from by rw [hk3];rfl],rfl⟩
 ·
  intro a w hs;rw [hk3] at hs
  revert a w hs
  refine go 5 [] [19] .n ?_
  intro a w hs;refine zU hs rfl (hs.mem.keep hp (by simp [zL,blk])) (.s (.s (.s (.s (.s (.s (.s (.s (.s (.s (.s (.s (.s (.s (.s (.s (.s .z))))))))))))))))) isAgg3 rfl ?_
  refine goL 1 [] [4] .n ?_
  intro a w hs;exact fin hs rfl rfl ⟨by rw [show zFY N e = N 15 from by rw [hk3];rfl],rfl⟩
 ·
  intro a w hs;rw [hk3] at hs
  revert a w hs
  refine go 5 [] [19] .n ?_
  intro a w hs;refine zU hs rfl (hs.mem.keep hp (by simp [zL,blk])) (.s (.s (.s (.s (.s (.s (.s (.s (.s (.s (.s (.s (.s (.s (.s (.s (.s (.s .z)))))))))))))))))) isAgg3 rfl ?_
  refine goL 1 [] [4] .n ?_
  intro a w hs;exact fin hs rfl rfl ⟨by rw [show zFY N e = N 16 from by rw [hk3];rfl],rfl⟩
 intro a w hs;rw [hk3] at hs
 revert a w hs
 refine go 5 [] [19] .n ?_
 intro a w hs;refine zU hs rfl (hs.mem.keep hp (by simp [zL,blk])) (.s (.s (.s (.s (.s (.s (.s (.s (.s (.s (.s (.s (.s (.s (.s (.s (.s (.s (.s .z))))))))))))))))))) isAgg3 rfl ?_
 refine goL 1 [] [4] .n ?_
 intro a w hs;exact fin hs rfl rfl ⟨by rw [show zFY N e = N 17 from by rw [hk3];rfl],rfl⟩
theorem zap (p g:Nat) (u:Value) (l:List RI) (most:Nat) (fl:Int) (gone:Bool) (N:Nat → Nat) (i:Int) (w0:World) (hp:(blk p [pt g 0,nI most,nI (N 0),nI (N 1),nI (N 2),nI (N 3),nI (N 4),nI (N 5),nI (N 6),nI (N 7),nI (N 8),nI (N 9),nI (N 10),nI (N 11),nI (N 12),nI (N 13),nI (N 14),nI (N 15),nI (N 16),nI (N 17)] 126).p w0) (hg:(blk g [u,nI most,zI fl,.bool (gone)] 188).p w0) (hu:Rd w0 [] u 4 l.length (l.flatMap riV)) (hrw:(rws 48 l).p w0) (ho:Oks (sns l) most):Calls Tryz.prog 57 #[pt p 0,zI i] w0 (Ret w0 [] fun z Nn=>∃ v,z = .tuple #[.agg #[zI (rat l i).t,zI (rat l i).tm,v],nI (zKf (sns l) i)] ∧ Nn = [row v 48 9 ((rat l i).l.length) ((rat l i).l.flatMap zA9)]):=by
 have hiv:=zEA hrw
 have hsr:=ho.srt
 have hll:l.length ≤ 100000:=by have:=ho.le;have:=ho.m64;rw [zAL] at *;omega
 have hm64:=ho.m64
 have hrl:=zZH ho i
 refine zD (F0:=[(0,pt p 0),(1,zI i)]) func57 rfl rfl rfl (.c (.c .n)) (Mem.nil _) ?_
 refine go 8 [] [15,4,1] .n (fun g1=>?_)
 intro a w hs;refine zU hs rfl (hs.mem.keep hp (by simp [zL,blk])) .z isAgg123 rfl ?_
 refine goL 1 [] [17,16,4] .n ?_
 intro a w hs;refine zB (v:=.tuple #[zI ((rat l i).t),.agg #[zI ((rat l i).t),zI ((rat l i).tm),(rat l i).v],nI (zKf (sns l) i)]) hs (.c rfl (.c rfl .n)) call87 (zH3 g _ l most fl gone i _ (hs.rd0 hu) (hs.mem.keep hg (by simp [zL,blk])) hsr (by omega) hiv) rfl ?_
 refine goL 6 [] [7,21,20,4] .n (fun g2=>?_)
 intro a w hs;refine zAg hs rfl rfl .z (.z (.c (.c (.c .n)))) (zH rfl (zH rfl (zH (zET (hs.mem.keepH hrw (by simp)) (zKh l i)).isSl.one zAf))) sizeOf46 rfl ?_
 refine goL 2 [0] [22,8,4] (.c .z .n) ⟨rfl,?_⟩
 intro a w hs;refine zK hs (.c rfl .n) call63 .n (zSS ((rat l i).t) ((rat l i).tm) _ ((rat l i).l) _ (zET (hs.mem.keepH hrw (by simp)) (zKh l i)) (by omega)) rfl ?_;clear hs w a;rintro _ _ a w ⟨v3,rfl,rfl⟩ hs
 revert a w hs
 refine goL 1 [] [24,23,4] .n ?_
 intro a w hs;refine zAg hs rfl rfl (.s (.s .z)) (.z (.c (.c (.c .n)))) (zH rfl (zH rfl (zH (zO (hs.mem.del .z)).isSl.one zAf))) sizeOf46 rfl ?_
 refine goL 1 [] [5,4] .n ?_
 intro a w hs;exact zBJ hs rfl rfl rfl .z (.z (.c (.c (.c .n)))) isAgg46 sizeOf46 (.c (.s (.s .z)) (.c .z .n)) ⟨_,rfl,rfl⟩
theorem zZj (p g:Nat) (u:Value) (l:List RI) (most:Nat) (fl:Int) (gone:Bool) (N:Nat → Nat) (k:Int) (w0:World) (hp:(blk p [pt g 0,nI most,nI (N 0),nI (N 1),nI (N 2),nI (N 3),nI (N 4),nI (N 5),nI (N 6),nI (N 7),nI (N 8),nI (N 9),nI (N 10),nI (N 11),nI (N 12),nI (N 13),nI (N 14),nI (N 15),nI (N 16),nI (N 17)] 126).p w0) (hg:(blk g [u,nI most,zI fl,.bool (gone)] 188).p w0) (hu:Rd w0 [] u 4 l.length (l.flatMap riV)) (hrw:(rws 48 l).p w0) (ho:Oks (sns l) most):Calls Tryz.prog 39 #[pt p 0,zI k] w0 (Ret w0 [] fun z Nn=>∃ v,z = .tuple #[.agg #[zI (zAZ l k).t,zI (zAZ l k).tm,v],.bool (zCR (sns l) k)] ∧ Nn = [row v 48 9 ((zAZ l k).l.length) ((zAZ l k).l.flatMap zA9)]):=by
 have hiv:=zEA hrw
 have hsr:=ho.srt
 have hll:l.length ≤ 100000:=by have:=ho.le;have:=ho.m64;rw [zAL] at *;omega
 have hm64:=ho.m64
 have hrl:=zNp ho k
 refine zD (F0:=[(0,pt p 0),(1,zI k)]) func39 rfl rfl rfl (.c (.c .n)) (Mem.nil _) ?_
 refine go 8 [] [14,4,1] .n (fun g1=>?_)
 intro a w hs;refine zU hs rfl (hs.mem.keep hp (by simp [zL,blk])) .z isAgg123 rfl ?_
 refine goL 1 [] [16,15,4] .n ?_
 intro a w hs;refine zB (v:=.tuple #[.agg #[zI ((zAZ l k).t),zI ((zAZ l k).tm),(zAZ l k).v],.bool (zCR (sns l) k)]) hs (.c rfl (.c rfl .n)) call64 (zGm g _ l most fl gone k _ (hs.rd0 hu) (hs.mem.keep hg (by simp [zL,blk])) hsr (by omega) hiv) rfl ?_
 refine goL 4 [] [6,19,18,4] .n (fun g2=>?_)
 intro a w hs;refine zAg hs rfl rfl .z (.z (.c (.c (.c .n)))) (zH rfl (zH rfl (zH (zET (hs.mem.keepH hrw (by simp)) (zFO l k hsr)).isSl.one zAf))) sizeOf46 rfl ?_
 refine goL 2 [0] [20,7,4] (.c .z .n) ⟨rfl,?_⟩
 intro a w hs;refine zK hs (.c rfl .n) call63 .n (zSS ((zAZ l k).t) ((zAZ l k).tm) _ ((zAZ l k).l) _ (zET (hs.mem.keepH hrw (by simp)) (zFO l k hsr)) (by omega)) rfl ?_;clear hs w a;rintro _ _ a w ⟨v3,rfl,rfl⟩ hs
 revert a w hs
 refine goL 1 [] [22,21,4] .n ?_
 intro a w hs;refine zAg hs rfl rfl (.s (.s .z)) (.z (.c (.c (.c .n)))) (zH rfl (zH rfl (zH (zO (hs.mem.del .z)).isSl.one zAf))) sizeOf46 rfl ?_
 refine goL 1 [] [5,4] .n ?_
 intro a w hs;exact zBJ hs rfl rfl rfl .z (.z (.c (.c (.c .n)))) isAgg46 sizeOf46 (.c (.s (.s .z)) (.c .z .n)) ⟨_,rfl,rfl⟩
theorem zQE (k:Nat) (w0:World) (h:1 ≤ k ∧ k ≤ 64):Calls Tryz.prog 77 #[nI k] w0 (Ret w0 [] fun z N=>∃ g,z = .tuple #[pt g 0,.int .i64 0] ∧ N = [blk g [.slice none 0 0,nI k,zI 0,.bool (false)] 188]):=by
 refine zD (F0:=[(0,nI k)]) func77 rfl rfl rfl (.c .n) (Mem.nil _) ?_
 refine go 4 [] [5,0] .n ?_
 have hb_:(decide (((k:Nat):Int) < 1)) = false:=decide_eq_false (by omega)
 intro a w hs;rw [hb_] at hs;clear hb_
 revert a w hs
 refine go 3 [] [8,6,0] .n ?_
 have hb_:(decide (64 < ((k:Nat):Int))) = false:=decide_eq_false (by omega)
 intro a w hs;rw [hb_] at hs;clear hb_
 revert a w hs
 refine go 7 [0] [3,2] .n (fun g1=>?_)
 intro a w hs;exact zBK hs rfl rfl rfl ⟨_,rfl,rfl⟩
theorem zXX (k:Nat) (w0:World) (hk:1 ≤ k ∧ k ≤ 64):Calls Tryz.prog 46 #[nI k] w0 (Ret w0 [] fun z N=>∃ p g,z = .tuple #[pt p 0,.int .i64 0] ∧ N = zZ7 p g (.slice none 0 0) [] k 0 false (fun _=>0)):=by
 refine zD (F0:=[(0,nI k)]) func46 rfl rfl rfl (.c .n) (Mem.nil _) ?_
 refine go 3 [] [7,0] .n ?_
 intro a w hs;refine zK hs (.c rfl .n) call77 .n (zQE k _ hk) rfl ?_;clear hs w a;rintro _ _ a w ⟨g1,rfl,rfl⟩ hs
 revert a w hs
 refine goL 14 [0] [3,2] .n (fun g2=>?_)
 refine cl (·.addNil 191 4) ?_
 refine cl (·.addRws 48) ?_
 refine cl (·.reorder (.c (.s (.s .z)) (.c (.s (.s .z)) (.c (.s .z) (.c .z .n))))) ?_
 intro a w hs;exact zBK hs rfl rfl rfl ⟨_,_,rfl,rfl⟩
end Go.Proofs.YtajjkegcfmhghaaGreat
