import Derived.Test.YtljpfgacpofkpaaGreatQG20
import Derived.Test.YtljpfgacpofkpaaGreatQG21
import Derived.Test.YtljpfgacpofkpaaGreatQSxBasB
set_option linter.unusedVariables false
set_option linter.unusedSimpArgs false
namespace Go.Proofs.YtljpfgacpofkpaaGreat
open Tryz
open Go Go.Sx Go.RowKit
set_option maxRecDepth 4000
set_option maxHeartbeats 1000000
theorem zX1 (p g:Nat) (u:Value) (l:List RI) (most:Nat) (fl:Int) (gone:Bool) (N:Nat→Nat) (v:Value) (m:Nat) (bs:List zQ) (w0:World) (hp:(blk p [pt g 0,nI most,nI (N 0),nI (N 1),nI (N 2),nI (N 3),nI (N 4),nI (N 5),nI (N 6),nI (N 7),nI (N 8),nI (N 9),nI (N 10),nI (N 11),nI (N 12),nI (N 13),nI (N 14),nI (N 15),nI (N 16),nI (N 17)] 155).p w0) (hg:(blk g [u,nI most,zI fl,.bool (gone)] 200).p w0) (hu:Rd w0 [] u 4 l.length (l.flatMap riV)) (hrw:(rws 48 l).p w0) (ho:Oks (sns l) most) (hb:Rd w0 [] v 1 m (zD bs)):Calls Tryz.prog 89 #[pt p 0,v] w0 (Ret w0 [] λz Nn=>∃ (X:zAD) (xv:Value),z = .tuple #[.agg #[.int .i64 X.t,.int .i64 X.tm,xv],nI (zBq (sns l) most fl gone (zA bs))]∧(zBq (sns l) most fl gone (zA bs)=0→X=(zAi (sns l) (zA bs)))∧Nn=[row xv 48 9 X.l.length (X.l.flatMap zBI)]):=by
 have hbl:bs.length=m:=by have:=hb.len;simpa [zD] using this
 have hbe:m≤maxLen:=hb.le
 simp only [maxLen] at hbe
 have hiv:=zEH hrw
 have hsr:=ho.srt
 have hll:l.length≤100000:=by have:=ho.le;have:=ho.m64;rw [zAO] at *;omega
 have hgl:=zHe bs
 have hbr:=zNb ho (zA bs).b
 refine zG (F0:=[(0,pt p 0),(1,v)]) func89 rfl rfl rfl (.c (.c .n)) (Mem.nil _) ?_
 refine go 3 [] [13,5,4,0] .n (λg1=>λg2=>?_)
 intro a w hs;refine zL hs (.c rfl .n) call126 .n (zUz _ _ bs _ (hs.rd0 hb)) rfl ?_;clear hs w a;rintro _ _ a w ⟨v3,rfl,rfl⟩ hs
 have hk4:=zHe bs
 revert a w hs
 refine goL 4 [] [6,16,15,5,4,0] .n (λg5=>?_)
 intro a w hs;refine zAU hs rfl rfl .z (.z (.c (.c (.c (.c .n))))) (zF rfl (zF rfl (zF rfl (zF (zK (hs.mem.del (.s .z))).isSl.one zAX)))) sizeOf116 rfl ?_
 refine goL 3 [0,0] [18,6,5,4,0] (.c (.s (.s .z)) .n) ⟨rfl,rfl,?_⟩
 refine ifG rfl (λc_6=>?_) (λc_6=>?_)
 ·
  refine cl (·.addNil 48 9) ?_
  refine go 0 [] [5,4] .n ?_
  intro a w hs
  refine zO [.l [] [0] [2] [],.l [] [0] [3] [],.s [0] [0] [0] [],.s [1] [0] [1] []] [] hs (.c (.s (.s (.s (.s .z)))) (.c (.s .z) .n)) .n (by kernel_rfl) ⟨rfl,rfl,rfl,rfl,⟨rfl,by kernel_rfl,λ_=>rfl,rfl,rfl,trivial⟩,λ_=>rfl,?_⟩
  refine goE 0 [] [5,4] .n ?_
  intro a w hs;exact zSw hs rfl rfl rfl (.s (.s (.s .z))) (.z (.c (.c (.c .n)))) isAgg46 sizeOf46 (.s (.s (.s (.s .z)))) .z isAgg34 (.c (.s (.s (.s (.s .z)))) (.c (.s (.s (.s .z))) (.c (.s (.s .z)) (.c (.s .z) .n)))) ⟨default,_,by rw [zWv (by omega)]<;>rfl,λh=>absurd h (by rw [zWv (by omega)];omega),rfl⟩
 refine go 2 [] [7,6,5,4,0] .n ?_
 intro a w hs
 refine zAQ [.p [] [],.p [0] [],.p [1] [],.v [2] (pt g 0),.p [] [],.p [4] [0],.v [5,3] (.tuple #[.agg #[zI ((zAd l ((zA bs).t)).t),zI ((zAd l ((zA bs).t)).tm),(zAd l ((zA bs).t)).v],.bool (zDl (sns l) ((zA bs).t))]),.p [6] [],.p [7] [],.p [7] [],.x [] ⟨[],[],[],λvs8=>vs8 10=pt (zBj (vs8 10)) 0,λvs8=>[blk (zBj (vs8 10)) [zI 0,zI 0,.slice none 0 0] 46],none⟩,.x [8] ⟨[],[10],[10],λvs8=>True,λvs8=>[blk (zBj (vs8 10)) [zI ((zAd l ((zA bs).t)).t),zI ((zAd l ((zA bs).t)).tm),(zAd l ((zA bs).t)).v] 46],none⟩,.p [9] []] [12] hs .n .n (.c (.s .z) .n) (by kernel_rfl) ⟨λ_ _ _ _ hm hs K=>zAC hs rfl (hm.keep hp (by simp [zN,blk])) .z isAgg151 rfl (vk K),rfl,λ_ _ _ _ hm hs K=>zB (v:=.tuple #[.agg #[zI ((zAd l ((zA bs).t)).t),zI ((zAd l ((zA bs).t)).tm),(zAd l ((zA bs).t)).v],.bool (zDl (sns l) ((zA bs).t))]) hs (.c rfl (.c rfl .n)) call87 (zGz g _ l most fl gone ((zA bs).t) _ (hm.rd0 hu) (hm.keep hg (by simp [zN,blk])) hsr (by omega) hiv) rfl (vk K),⟨.n,by kernel_rfl,λ_=>rfl,rfl,rfl⟩,⟨?_,?_,trivial⟩,?_⟩
 ·
  intro a_ w_ R_ rest_ vs8 hm hs ht hx
  have hs0:=hs.bare
  refine zBm (cs:=[zI 0,zI 0,.slice none 0 0]) hs zeroValue46 rfl rfl ?_;clear hs;intro g9 a w hs
  exact wpList_nil ⟨rfl,_,_,hs0,.r,hs,rfl⟩
 ·
  intro a_ w_ R_ rest_ vs8 hm hs ht hx
  have t10:=ht 10 (zJ 13 _ (by kernel_rfl))
  have e10:_=some (vs8 10):=t10.val rfl
  rw [show vs8 10=pt (zBj (vs8 10)) 0 from t10.2.1] at e10
  replace hs:=hs.learn e10
  have hs0:=hs.bare
  refine zAU hs rfl rfl .z (.z (.c (.c (.c .n)))) (zF rfl (zF rfl (zF (zC4 (hm.keepH hrw (by simp)) (zFB l ((zA bs).t) hsr)).isSl.one zAX))) sizeOf46 rfl ?_;clear hs;intro a w hs
  exact wpList_nil ⟨rfl,.tuple #[],_,hs0,(.c (.c .r)),hs,trivial⟩
 clear hs w a;intro vs8 a w hs hf
 generalize zBj (vs8 10)=g10 at hs
 clear hf
 revert a w hs
 refine goE 2 [] [33,32,7,6,5,4,0] .n ?_
 intro a w hs;refine zBD (us:=[pt g2 0]) hs rfl (.c rfl (.c rfl .n)) rfl call127 (.c .z .n) (zEs (zDl (sns l) ((zA bs).t)) 12 ((zA bs).e) g2 _ _ (hs.mem.del .z)) rfl ?_;clear hs w a;rintro _ _ a w ⟨rfl,rfl⟩ hs
 revert a w hs
 refine goL 4 [0] [38,36,35,7,6,5,4,0] (.c (.s .z) .n) ⟨rfl,?_⟩
 intro a w hs;refine zB (v:=.bool (stl (sns l) most fl gone ((zA bs).t))) hs (.c rfl (.c rfl .n)) call128 (zVt p g _ l most fl gone N ((zA bs).t) _ (hs.mem.keep hp (by simp [zN,blk])) (hs.mem.keep hg (by simp [zN,blk])) (hs.rd0 hu) (hs.mem.keepH hrw (by simp)) ho) rfl ?_
 intro a w hs;refine zBD (us:=[pt g2 0]) hs rfl (.c rfl (.c rfl .n)) rfl call127 (.c (.s .z) .n) (zEs (stl (sns l) most fl gone ((zA bs).t)) 13 (zFZ ((zA bs).e) (zDl (sns l) ((zA bs).t)) 12) g2 _ _ (hs.mem.del (.s .z))) rfl ?_;clear hs w a;rintro _ _ a w ⟨rfl,rfl⟩ hs
 revert a w hs
 refine goL 0 [] [7,6,5,4,0] .n ?_
 intro a w hs
 refine zAQ [.p [] [],.p [0] [],.p [1] [],.v [2] (pt g 0),.p [] [],.p [4] [0],.v [5,3] (.tuple #[.agg #[zI ((zAd l ((zA bs).b)).t),zI ((zAd l ((zA bs).b)).tm),(zAd l ((zA bs).b)).v],.bool (zDl (sns l) ((zA bs).b))]),.p [6] [],.p [7] [],.p [7] [],.x [] ⟨[],[],[],λvs11=>vs11 10=pt (zBj (vs11 10)) 0,λvs11=>[blk (zBj (vs11 10)) [zI 0,zI 0,.slice none 0 0] 46],none⟩,.x [8] ⟨[],[10],[10],λvs11=>True,λvs11=>[blk (zBj (vs11 10)) [zI ((zAd l ((zA bs).b)).t),zI ((zAd l ((zA bs).b)).tm),(zAd l ((zA bs).b)).v] 46],none⟩,.p [9] []] [12] hs .n .n (.c (.s .z) .n) (by kernel_rfl) ⟨λ_ _ _ _ hm hs K=>zAC hs rfl (hm.keep hp (by simp [zN,blk])) .z isAgg151 rfl (vk K),rfl,λ_ _ _ _ hm hs K=>zB (v:=.tuple #[.agg #[zI ((zAd l ((zA bs).b)).t),zI ((zAd l ((zA bs).b)).tm),(zAd l ((zA bs).b)).v],.bool (zDl (sns l) ((zA bs).b))]) hs (.c rfl (.c rfl .n)) call87 (zGz g _ l most fl gone ((zA bs).b) _ (hm.rd0 hu) (hm.keep hg (by simp [zN,blk])) hsr (by omega) hiv) rfl (vk K),⟨.n,by kernel_rfl,λ_=>rfl,rfl,rfl⟩,⟨?_,?_,trivial⟩,?_⟩
 ·
  intro a_ w_ R_ rest_ vs11 hm hs ht hx
  have hs0:=hs.bare
  refine zBm (cs:=[zI 0,zI 0,.slice none 0 0]) hs zeroValue46 rfl rfl ?_;clear hs;intro g12 a w hs
  exact wpList_nil ⟨rfl,_,_,hs0,.r,hs,rfl⟩
 ·
  intro a_ w_ R_ rest_ vs11 hm hs ht hx
  have t10:=ht 10 (zJ 13 _ (by kernel_rfl))
  have e10:_=some (vs11 10):=t10.val rfl
  rw [show vs11 10=pt (zBj (vs11 10)) 0 from t10.2.1] at e10
  replace hs:=hs.learn e10
  have hs0:=hs.bare
  refine zAU hs rfl rfl .z (.z (.c (.c (.c .n)))) (zF rfl (zF rfl (zF (zC4 (hm.keepH hrw (by simp)) (zFB l ((zA bs).b) hsr)).isSl.one zAX))) sizeOf46 rfl ?_;clear hs;intro a w hs
  exact wpList_nil ⟨rfl,.tuple #[],_,hs0,(.c (.c .r)),hs,trivial⟩
 clear hs w a;intro vs11 a w hs hf
 obtain ⟨e10,q10⟩:=hf 10 (by decide)
 replace e10:_=some (vs11 10):=e10.val rfl
 rw [show vs11 10=pt (zBj (vs11 10)) 0 from q10] at e10
 replace hs:=hs.learn e10;clear e10 q10
 generalize zBj (vs11 10)=g13 at hs
 clear hf
 revert a w hs
 refine goE 4 [] [54,51,10,7,6,5,4,0] .n ?_
 intro a w hs;refine zX (b:=!(zDl (sns l) ((zA bs).b))) (λc_14=>?_) (λc_14=>?_)
 ·
  rw [c_14] at hs
  replace c_14:=zFW c_14
  revert a w hs
  refine go 4 [0] [58,51,10,7,6,5,4,0] (.c (.s .z) .n) ⟨rfl,?_⟩
  intro a w hs;replace hs:=hs.reslot (d:=58) (v:=.bool (decide (0≤((zA bs).b)))) (v':=.bool (zIs (sns l) (zA bs).b)) rfl (Option.some.inj (congrArg (λb=>some (Value.bool b)) (by unfold zIs;simp_all)))
  refine zBD (us:=[pt g2 0]) hs rfl (.c rfl (.c rfl .n)) rfl call127 (.c (.s .z) .n) (zEs (zIs (sns l) (zA bs).b) 14 (zFZ (zFZ ((zA bs).e) (zDl (sns l) ((zA bs).t)) 12) (stl (sns l) most fl gone ((zA bs).t)) 13) g2 _ _ (hs.mem.del (.s .z))) rfl ?_;clear hs w a;rintro _ _ a w ⟨rfl,rfl⟩ hs
  revert a w hs
  refine goL 2 [0] [61,10,7,6,5,4,0] (.c .z .n) ⟨rfl,?_⟩
  refine ifG rfl (λc_15=>?_) (λc_15=>?_)
  ·
   refine go 2 [0,1] [64,63,7,5,4,0] (.c (.s (.s (.s (.s (.s .z))))) (.c (.s .z) .n)) ⟨rfl,rfl,?_⟩
   intro a w hs;refine zL hs (.c rfl (.c rfl .n)) call129 .n (zLA ((zAd l ((zA bs).b)).t) ((zAd l ((zA bs).b)).tm) _ ((zAd l ((zA bs).b)).l) ((zA bs).t) ((zA bs).tm) ((zA bs).b) _ ((zA bs).l) _ (by omega) (by omega) (by omega) (by omega) (by omega) (zC4 (hs.mem.keepH hrw (by simp)) (zFB l ((zA bs).b) hsr)) (zK (hs.mem.del (.s (.s (.s .z))))) (zKU bs)) rfl ?_;clear hs w a;rintro _ _ a w ⟨v16,rfl,rfl⟩ hs
   have hk17:=zN7 (at_:=((zAd l ((zA bs).b)).t)) (atm:=((zAd l ((zA bs).b)).tm)) (a:=(zAd l ((zA bs).b)).l) (gt:=((zA bs).t)) (gtm:=((zA bs).tm)) (gb:=((zA bs).b)) (rl:=(zA bs).l)
   revert a w hs
   refine goL 3 [] [67,66,7,5,4,0] .n ?_
   intro a w hs;refine zAU hs rfl rfl (.s (.s (.s (.s (.s .z))))) (.z (.c (.c (.c .n)))) (zF rfl (zF rfl (zF (zK (hs.mem.del .z)).isSl.one zAX))) sizeOf46 rfl ?_
   refine goL 4 [0,1] [70,69,68,5,4] (.c (.s (.s (.s (.s .z)))) (.c .z .n)) ⟨rfl,rfl,?_⟩
   intro a w hs;refine zB (v:=.bool (tml (sns l) ((aS ((zAd l ((zA bs).b)).t) ((zAd l ((zA bs).b)).tm) ((zAd l ((zA bs).b)).l) ((zA bs).t) ((zA bs).tm) ((zA bs).b) ((zA bs).l)).t) ((aS ((zAd l ((zA bs).b)).t) ((zAd l ((zA bs).b)).tm) ((zAd l ((zA bs).b)).l) ((zA bs).t) ((zA bs).tm) ((zA bs).b) ((zA bs).l)).tm))) hs (.c rfl (.c rfl .n)) call130 (zFK p g _ l most fl gone N ((aS ((zAd l ((zA bs).b)).t) ((zAd l ((zA bs).b)).tm) ((zAd l ((zA bs).b)).l) ((zA bs).t) ((zA bs).tm) ((zA bs).b) ((zA bs).l)).t) ((aS ((zAd l ((zA bs).b)).t) ((zAd l ((zA bs).b)).tm) ((zAd l ((zA bs).b)).l) ((zA bs).t) ((zA bs).tm) ((zA bs).b) ((zA bs).l)).tm) _ _ (zK (hs.mem.del (.s (.s .z)))).isSl _ (hs.mem.keep hp (by simp [zN,blk])) (hs.mem.keep hg (by simp [zN,blk])) (hs.rd0 hu) (hs.mem.keepH hrw (by simp)) ho) rfl ?_
   refine goL 1 [] [72,68,5,4] .n ?_
   intro a w hs;refine zBD (us:=[pt g2 0]) hs rfl (.c rfl (.c rfl .n)) rfl call127 (.c .z .n) (zEs (!(tml (sns l) ((aS ((zAd l ((zA bs).b)).t) ((zAd l ((zA bs).b)).tm) ((zAd l ((zA bs).b)).l) ((zA bs).t) ((zA bs).tm) ((zA bs).b) ((zA bs).l)).t) ((aS ((zAd l ((zA bs).b)).t) ((zAd l ((zA bs).b)).tm) ((zAd l ((zA bs).b)).l) ((zA bs).t) ((zA bs).tm) ((zA bs).b) ((zA bs).l)).tm))) 16 (aE ((zAd l ((zA bs).b)).t) ((zAd l ((zA bs).b)).tm) ((zAd l ((zA bs).b)).l) ((zA bs).t) ((zA bs).tm) ((zA bs).b) ((zA bs).l)) g2 _ _ (hs.mem.del .z)) rfl ?_;clear hs w a;rintro _ _ a w ⟨rfl,rfl⟩ hs
   revert a w hs
   refine goL 0 [] [5,4] .n ?_
   intro a w hs
   refine zAQ [.y [] (.agg #[zI ((aS ((zAd l ((zA bs).b)).t) ((zAd l ((zA bs).b)).tm) ((zAd l ((zA bs).b)).l) ((zA bs).t) ((zA bs).tm) ((zA bs).b) ((zA bs).l)).t),zI ((aS ((zAd l ((zA bs).b)).t) ((zAd l ((zA bs).b)).tm) ((zAd l ((zA bs).b)).l) ((zA bs).t) ((zA bs).tm) ((zA bs).b) ((zA bs).l)).tm),v16]) [] [] [] λvs18=>[],.l [] [0] [3] [],.x [0] ⟨[blk g1 [zI ((aS ((zAd l ((zA bs).b)).t) ((zAd l ((zA bs).b)).tm) ((zAd l ((zA bs).b)).l) ((zA bs).t) ((zA bs).tm) ((zA bs).b) ((zA bs).l)).t),zI ((aS ((zAd l ((zA bs).b)).t) ((zAd l ((zA bs).b)).tm) ((zAd l ((zA bs).b)).l) ((zA bs).t) ((zA bs).tm) ((zA bs).b) ((zA bs).l)).tm),v16] 46],[],[],λvs18=>True,λvs18=>[blk g1 [zI ((aS ((zAd l ((zA bs).b)).t) ((zAd l ((zA bs).b)).tm) ((zAd l ((zA bs).b)).l) ((zA bs).t) ((zA bs).tm) ((zA bs).b) ((zA bs).l)).t),zI ((aS ((zAd l ((zA bs).b)).t) ((zAd l ((zA bs).b)).tm) ((zAd l ((zA bs).b)).l) ((zA bs).t) ((zA bs).tm) ((zA bs).b) ((zA bs).l)).tm),v16] 46],none⟩,.s [1] [0] [0] []] [] hs (.c .z .n) (.c .z .n) .n (by kernel_rfl) ⟨rfl,rfl,⟨(.c (.s .z) (.c .z .n)),by kernel_rfl,λ_=>rfl,rfl,rfl⟩,⟨?_,?_,trivial⟩,?_⟩
   ·
    intro a_ w_ R_ rest_ vs18 hm hs ht hx
    have hs0:=hs.bare
    refine zS3 hs rfl (hm.own (List.mem_append.2 (.inr ((hx 2 (zJ 4 _ (by kernel_rfl))).1 _ (List.Mem.head _))))) (.z (.c (.c (.c .n)))) isAgg46 sizeOf46 rfl ?_;clear hs;intro a w hs
    exact wpList_nil ⟨rfl,_,_,hs0,.r,hs,rfl⟩
   ·
    intro a_ w_ R_ rest_ vs18 hm hs ht hx
    have hm0:=hm.mid
    have hs0:=hs.bare
    refine zAU hs rfl rfl .z (.z (.c (.c (.c .n)))) (zF rfl (zF rfl (zF (zK (hm0.del .z)).isSl.one zAX))) sizeOf46 rfl ?_;clear hs;intro a w hs
    exact wpList_nil ⟨rfl,.tuple #[],_,hs0,(.c .r),hs,trivial⟩
   clear hs w a;intro vs18 a w hs hf
   clear hf
   revert a w hs
   refine goE 0 [] [5,4] .n ?_
   intro a w hs;exact zSw hs rfl rfl rfl (.s (.s (.s (.s (.s .z))))) (.z (.c (.c (.c .n)))) isAgg46 sizeOf46 (.s (.s (.s (.s (.s (.s .z)))))) .z isAgg34 (.c (.s (.s (.s (.s (.s (.s .z)))))) (.c (.s (.s (.s (.s (.s .z))))) (.c (.s (.s (.s (.s .z)))) (.c (.s (.s (.s .z))) (.c (.s (.s .z)) (.c (.s .z) .n)))))) ⟨_,_,by rw [zWV (by omega) (by show zFZ _ _ _=0;omega),zJL hsr,zGE hsr]<;>rfl,λ_=>(zGE hsr).symm,rfl⟩
  refine cl (·.addNil 48 9) ?_
  refine go 3 [0] [70,69,68,5,4] (.c (.s (.s (.s (.s .z)))) .n) ⟨rfl,?_⟩
  intro a w hs;refine zB (v:=.bool (tml (sns l) 0 0)) hs (.c rfl (.c rfl .n)) call130 (zFK p g _ l most fl gone N 0 0 _ _ ⟨_,_,rfl⟩ _ (hs.mem.keep hp (by simp [zN,blk])) (hs.mem.keep hg (by simp [zN,blk])) (hs.rd0 hu) (hs.mem.keepH hrw (by simp)) ho) rfl ?_
  refine goL 1 [] [72,68,5,4] .n ?_
  intro a w hs;refine zBD (us:=[pt g2 0]) hs rfl (.c rfl (.c rfl .n)) rfl call127 (.c (.s (.s .z)) .n) (zEs (!(tml (sns l) 0 0)) 16 (zFZ (zFZ (zFZ ((zA bs).e) (zDl (sns l) ((zA bs).t)) 12) (stl (sns l) most fl gone ((zA bs).t)) 13) (zIs (sns l) (zA bs).b) 14) g2 _ _ (hs.mem.del (.s (.s .z)))) rfl ?_;clear hs w a;rintro _ _ a w ⟨rfl,rfl⟩ hs
  revert a w hs
  refine goL 0 [] [5,4] .n ?_
  intro a w hs
  refine zO [.l [] [0] [2] [],.l [] [0] [3] [],.s [0] [0] [0] [],.s [1] [0] [1] []] [] hs (.c (.s .z) (.c .z .n)) .n (by kernel_rfl) ⟨rfl,rfl,rfl,rfl,⟨rfl,by kernel_rfl,λ_=>rfl,rfl,rfl,trivial⟩,λ_=>rfl,?_⟩
  refine goE 0 [] [5,4] .n ?_
  intro a w hs;exact zSw hs rfl rfl rfl (.s (.s (.s (.s (.s .z))))) (.z (.c (.c (.c .n)))) isAgg46 sizeOf46 (.s (.s (.s (.s (.s (.s .z)))))) .z isAgg34 (.c (.s (.s (.s (.s (.s (.s .z)))))) (.c (.s (.s (.s (.s (.s .z))))) (.c (.s (.s (.s (.s .z)))) (.c (.s (.s (.s .z))) (.c (.s (.s .z)) (.c (.s .z) .n)))))) ⟨default,_,by rw [zNp (by omega) (by show zFZ _ _ _≠0;omega),zLg (by omega)]<;>rfl,λh=>absurd h (by rw [zNp (by omega) (by show zFZ _ _ _≠0;omega)];show ¬ zFZ _ _ _=0;omega),rfl⟩
 rw [c_14] at hs
 replace c_14:=zFX c_14
 revert a w hs
 refine go 4 [] [58,51,10,7,6,5,4,0] .n ?_
 intro a w hs;replace hs:=hs.reslot (d:=58) (v:=.bool (false)) (v':=.bool (zIs (sns l) (zA bs).b)) rfl (Option.some.inj (congrArg (λb=>some (Value.bool b)) (by unfold zIs;simp_all)))
 refine zBD (us:=[pt g2 0]) hs rfl (.c rfl (.c rfl .n)) rfl call127 (.c .z .n) (zEs (zIs (sns l) (zA bs).b) 14 (zFZ (zFZ ((zA bs).e) (zDl (sns l) ((zA bs).t)) 12) (stl (sns l) most fl gone ((zA bs).t)) 13) g2 _ _ (hs.mem.del .z)) rfl ?_;clear hs w a;rintro _ _ a w ⟨rfl,rfl⟩ hs
 revert a w hs
 refine goL 2 [0] [61,10,7,6,5,4,0] (.c .z .n) ⟨rfl,?_⟩
 refine ifG rfl (λc_20=>?_) (λc_20=>?_)
 ·
  refine go 2 [0,1] [64,63,7,5,4,0] (.c (.s (.s (.s (.s (.s .z))))) (.c (.s .z) .n)) ⟨rfl,rfl,?_⟩
  intro a w hs;refine zL hs (.c rfl (.c rfl .n)) call129 .n (zLA ((zAd l ((zA bs).b)).t) ((zAd l ((zA bs).b)).tm) _ ((zAd l ((zA bs).b)).l) ((zA bs).t) ((zA bs).tm) ((zA bs).b) _ ((zA bs).l) _ (by omega) (by omega) (by omega) (by omega) (by omega) (zC4 (hs.mem.keepH hrw (by simp)) (zFB l ((zA bs).b) hsr)) (zK (hs.mem.del (.s (.s (.s .z))))) (zKU bs)) rfl ?_;clear hs w a;rintro _ _ a w ⟨v21,rfl,rfl⟩ hs
  have hk22:=zN7 (at_:=((zAd l ((zA bs).b)).t)) (atm:=((zAd l ((zA bs).b)).tm)) (a:=(zAd l ((zA bs).b)).l) (gt:=((zA bs).t)) (gtm:=((zA bs).tm)) (gb:=((zA bs).b)) (rl:=(zA bs).l)
  revert a w hs
  refine goL 3 [] [67,66,7,5,4,0] .n ?_
  intro a w hs;refine zAU hs rfl rfl (.s (.s (.s (.s (.s .z))))) (.z (.c (.c (.c .n)))) (zF rfl (zF rfl (zF (zK (hs.mem.del .z)).isSl.one zAX))) sizeOf46 rfl ?_
  refine goL 4 [0,1] [70,69,68,5,4] (.c (.s (.s (.s (.s .z)))) (.c .z .n)) ⟨rfl,rfl,?_⟩
  intro a w hs;refine zB (v:=.bool (tml (sns l) ((aS ((zAd l ((zA bs).b)).t) ((zAd l ((zA bs).b)).tm) ((zAd l ((zA bs).b)).l) ((zA bs).t) ((zA bs).tm) ((zA bs).b) ((zA bs).l)).t) ((aS ((zAd l ((zA bs).b)).t) ((zAd l ((zA bs).b)).tm) ((zAd l ((zA bs).b)).l) ((zA bs).t) ((zA bs).tm) ((zA bs).b) ((zA bs).l)).tm))) hs (.c rfl (.c rfl .n)) call130 (zFK p g _ l most fl gone N ((aS ((zAd l ((zA bs).b)).t) ((zAd l ((zA bs).b)).tm) ((zAd l ((zA bs).b)).l) ((zA bs).t) ((zA bs).tm) ((zA bs).b) ((zA bs).l)).t) ((aS ((zAd l ((zA bs).b)).t) ((zAd l ((zA bs).b)).tm) ((zAd l ((zA bs).b)).l) ((zA bs).t) ((zA bs).tm) ((zA bs).b) ((zA bs).l)).tm) _ _ (zK (hs.mem.del (.s (.s .z)))).isSl _ (hs.mem.keep hp (by simp [zN,blk])) (hs.mem.keep hg (by simp [zN,blk])) (hs.rd0 hu) (hs.mem.keepH hrw (by simp)) ho) rfl ?_
  refine goL 1 [] [72,68,5,4] .n ?_
  intro a w hs;refine zBD (us:=[pt g2 0]) hs rfl (.c rfl (.c rfl .n)) rfl call127 (.c .z .n) (zEs (!(tml (sns l) ((aS ((zAd l ((zA bs).b)).t) ((zAd l ((zA bs).b)).tm) ((zAd l ((zA bs).b)).l) ((zA bs).t) ((zA bs).tm) ((zA bs).b) ((zA bs).l)).t) ((aS ((zAd l ((zA bs).b)).t) ((zAd l ((zA bs).b)).tm) ((zAd l ((zA bs).b)).l) ((zA bs).t) ((zA bs).tm) ((zA bs).b) ((zA bs).l)).tm))) 16 (aE ((zAd l ((zA bs).b)).t) ((zAd l ((zA bs).b)).tm) ((zAd l ((zA bs).b)).l) ((zA bs).t) ((zA bs).tm) ((zA bs).b) ((zA bs).l)) g2 _ _ (hs.mem.del .z)) rfl ?_;clear hs w a;rintro _ _ a w ⟨rfl,rfl⟩ hs
  revert a w hs
  refine goL 0 [] [5,4] .n ?_
  intro a w hs
  refine zAQ [.y [] (.agg #[zI ((aS ((zAd l ((zA bs).b)).t) ((zAd l ((zA bs).b)).tm) ((zAd l ((zA bs).b)).l) ((zA bs).t) ((zA bs).tm) ((zA bs).b) ((zA bs).l)).t),zI ((aS ((zAd l ((zA bs).b)).t) ((zAd l ((zA bs).b)).tm) ((zAd l ((zA bs).b)).l) ((zA bs).t) ((zA bs).tm) ((zA bs).b) ((zA bs).l)).tm),v21]) [] [] [] λvs23=>[],.l [] [0] [3] [],.x [0] ⟨[blk g1 [zI ((aS ((zAd l ((zA bs).b)).t) ((zAd l ((zA bs).b)).tm) ((zAd l ((zA bs).b)).l) ((zA bs).t) ((zA bs).tm) ((zA bs).b) ((zA bs).l)).t),zI ((aS ((zAd l ((zA bs).b)).t) ((zAd l ((zA bs).b)).tm) ((zAd l ((zA bs).b)).l) ((zA bs).t) ((zA bs).tm) ((zA bs).b) ((zA bs).l)).tm),v21] 46],[],[],λvs23=>True,λvs23=>[blk g1 [zI ((aS ((zAd l ((zA bs).b)).t) ((zAd l ((zA bs).b)).tm) ((zAd l ((zA bs).b)).l) ((zA bs).t) ((zA bs).tm) ((zA bs).b) ((zA bs).l)).t),zI ((aS ((zAd l ((zA bs).b)).t) ((zAd l ((zA bs).b)).tm) ((zAd l ((zA bs).b)).l) ((zA bs).t) ((zA bs).tm) ((zA bs).b) ((zA bs).l)).tm),v21] 46],none⟩,.s [1] [0] [0] []] [] hs (.c .z .n) (.c .z .n) .n (by kernel_rfl) ⟨rfl,rfl,⟨(.c (.s .z) (.c .z .n)),by kernel_rfl,λ_=>rfl,rfl,rfl⟩,⟨?_,?_,trivial⟩,?_⟩
  ·
   intro a_ w_ R_ rest_ vs23 hm hs ht hx
   have hs0:=hs.bare
   refine zS3 hs rfl (hm.own (List.mem_append.2 (.inr ((hx 2 (zJ 4 _ (by kernel_rfl))).1 _ (List.Mem.head _))))) (.z (.c (.c (.c .n)))) isAgg46 sizeOf46 rfl ?_;clear hs;intro a w hs
   exact wpList_nil ⟨rfl,_,_,hs0,.r,hs,rfl⟩
  ·
   intro a_ w_ R_ rest_ vs23 hm hs ht hx
   have hm0:=hm.mid
   have hs0:=hs.bare
   refine zAU hs rfl rfl .z (.z (.c (.c (.c .n)))) (zF rfl (zF rfl (zF (zK (hm0.del .z)).isSl.one zAX))) sizeOf46 rfl ?_;clear hs;intro a w hs
   exact wpList_nil ⟨rfl,.tuple #[],_,hs0,(.c .r),hs,trivial⟩
  clear hs w a;intro vs23 a w hs hf
  clear hf
  revert a w hs
  refine goE 0 [] [5,4] .n ?_
  intro a w hs;exact zSw hs rfl rfl rfl (.s (.s (.s (.s (.s .z))))) (.z (.c (.c (.c .n)))) isAgg46 sizeOf46 (.s (.s (.s (.s (.s (.s .z)))))) .z isAgg34 (.c (.s (.s (.s (.s (.s (.s .z)))))) (.c (.s (.s (.s (.s (.s .z))))) (.c (.s (.s (.s (.s .z)))) (.c (.s (.s (.s .z))) (.c (.s (.s .z)) (.c (.s .z) .n)))))) ⟨_,_,by rw [zWV (by omega) (by show zFZ _ _ _=0;omega),zJL hsr,zGE hsr]<;>rfl,λ_=>(zGE hsr).symm,rfl⟩
 refine cl (·.addNil 48 9) ?_
 refine go 3 [0] [70,69,68,5,4] (.c (.s (.s (.s (.s .z)))) .n) ⟨rfl,?_⟩
 intro a w hs;refine zB (v:=.bool (tml (sns l) 0 0)) hs (.c rfl (.c rfl .n)) call130 (zFK p g _ l most fl gone N 0 0 _ _ ⟨_,_,rfl⟩ _ (hs.mem.keep hp (by simp [zN,blk])) (hs.mem.keep hg (by simp [zN,blk])) (hs.rd0 hu) (hs.mem.keepH hrw (by simp)) ho) rfl ?_
 refine goL 1 [] [72,68,5,4] .n ?_
 intro a w hs;refine zBD (us:=[pt g2 0]) hs rfl (.c rfl (.c rfl .n)) rfl call127 (.c (.s (.s .z)) .n) (zEs (!(tml (sns l) 0 0)) 16 (zFZ (zFZ (zFZ ((zA bs).e) (zDl (sns l) ((zA bs).t)) 12) (stl (sns l) most fl gone ((zA bs).t)) 13) (zIs (sns l) (zA bs).b) 14) g2 _ _ (hs.mem.del (.s (.s .z)))) rfl ?_;clear hs w a;rintro _ _ a w ⟨rfl,rfl⟩ hs
 revert a w hs
 refine goL 0 [] [5,4] .n ?_
 intro a w hs
 refine zO [.l [] [0] [2] [],.l [] [0] [3] [],.s [0] [0] [0] [],.s [1] [0] [1] []] [] hs (.c (.s .z) (.c .z .n)) .n (by kernel_rfl) ⟨rfl,rfl,rfl,rfl,⟨rfl,by kernel_rfl,λ_=>rfl,rfl,rfl,trivial⟩,λ_=>rfl,?_⟩
 refine goE 0 [] [5,4] .n ?_
 intro a w hs;exact zSw hs rfl rfl rfl (.s (.s (.s (.s (.s .z))))) (.z (.c (.c (.c .n)))) isAgg46 sizeOf46 (.s (.s (.s (.s (.s (.s .z)))))) .z isAgg34 (.c (.s (.s (.s (.s (.s (.s .z)))))) (.c (.s (.s (.s (.s (.s .z))))) (.c (.s (.s (.s (.s .z)))) (.c (.s (.s (.s .z))) (.c (.s (.s .z)) (.c (.s .z) .n)))))) ⟨default,_,by rw [zNp (by omega) (by show zFZ _ _ _≠0;omega),zLg (by omega)]<;>rfl,λh=>absurd h (by rw [zNp (by omega) (by show zFZ _ _ _≠0;omega)];show ¬ zFZ _ _ _=0;omega),rfl⟩
theorem zSF (p g:Nat) (u:Value) (l:List RI) (most:Nat) (fl:Int) (gone:Bool) (N:Nat→Nat) (v:Value) (m:Nat) (bs:List zQ) (w0:World) (hM:∀ h∈[blk p [pt g 0,nI most,nI (N 0),nI (N 1),nI (N 2),nI (N 3),nI (N 4),nI (N 5),nI (N 6),nI (N 7),nI (N 8),nI (N 9),nI (N 10),nI (N 11),nI (N 12),nI (N 13),nI (N 14),nI (N 15),nI (N 16),nI (N 17)] 155,blk g [u,nI most,zI fl,.bool (gone)] 200,row u 214 4 l.length (l.flatMap riV),rws 48 l],h.p w0) (hnd:(zN [blk p [pt g 0,nI most,nI (N 0),nI (N 1),nI (N 2),nI (N 3),nI (N 4),nI (N 5),nI (N 6),nI (N 7),nI (N 8),nI (N 9),nI (N 10),nI (N 11),nI (N 12),nI (N 13),nI (N 14),nI (N 15),nI (N 16),nI (N 17)] 155,blk g [u,nI most,zI fl,.bool (gone)] 200,row u 214 4 l.length (l.flatMap riV),rws 48 l]).Nodup) (ho:Oks (sns l) most) (hN:∀ i,N i≤1000000) (hb:Rd w0 (zN [blk p [pt g 0,nI most,nI (N 0),nI (N 1),nI (N 2),nI (N 3),nI (N 4),nI (N 5),nI (N 6),nI (N 7),nI (N 8),nI (N 9),nI (N 10),nI (N 11),nI (N 12),nI (N 13),nI (N 14),nI (N 15),nI (N 16),nI (N 17)] 155,blk g [u,nI most,zI fl,.bool (gone)] 200,row u 214 4 l.length (l.flatMap riV),rws 48 l]) v 1 m (zD bs)):Calls Tryz.prog 55 #[pt p 0,v] w0 (Ret w0 (zN [blk p [pt g 0,nI most,nI (N 0),nI (N 1),nI (N 2),nI (N 3),nI (N 4),nI (N 5),nI (N 6),nI (N 7),nI (N 8),nI (N 9),nI (N 10),nI (N 11),nI (N 12),nI (N 13),nI (N 14),nI (N 15),nI (N 16),nI (N 17)] 155,blk g [u,nI most,zI fl,.bool (gone)] 200,row u 214 4 l.length (l.flatMap riV),rws 48 l]) λz Nn=>z = .tuple #[zI (zJb (sns l) most fl gone (zA bs)),nI (zBq (sns l) most fl gone (zA bs))]∧∃ (u':Value) (l':List RI),(zDA most ⟨sns l,fl,gone,N⟩ (zA bs)).l=sns l'∧Nn=[blk p [pt g 0,nI most,nI (((zDA most ⟨sns l,fl,gone,N⟩ (zA bs)).n) 0),nI (((zDA most ⟨sns l,fl,gone,N⟩ (zA bs)).n) 1),nI (((zDA most ⟨sns l,fl,gone,N⟩ (zA bs)).n) 2),nI (((zDA most ⟨sns l,fl,gone,N⟩ (zA bs)).n) 3),nI (((zDA most ⟨sns l,fl,gone,N⟩ (zA bs)).n) 4),nI (((zDA most ⟨sns l,fl,gone,N⟩ (zA bs)).n) 5),nI (((zDA most ⟨sns l,fl,gone,N⟩ (zA bs)).n) 6),nI (((zDA most ⟨sns l,fl,gone,N⟩ (zA bs)).n) 7),nI (((zDA most ⟨sns l,fl,gone,N⟩ (zA bs)).n) 8),nI (((zDA most ⟨sns l,fl,gone,N⟩ (zA bs)).n) 9),nI (((zDA most ⟨sns l,fl,gone,N⟩ (zA bs)).n) 10),nI (((zDA most ⟨sns l,fl,gone,N⟩ (zA bs)).n) 11),nI (((zDA most ⟨sns l,fl,gone,N⟩ (zA bs)).n) 12),nI (((zDA most ⟨sns l,fl,gone,N⟩ (zA bs)).n) 13),nI (((zDA most ⟨sns l,fl,gone,N⟩ (zA bs)).n) 14),nI (((zDA most ⟨sns l,fl,gone,N⟩ (zA bs)).n) 15),nI (((zDA most ⟨sns l,fl,gone,N⟩ (zA bs)).n) 16),nI (((zDA most ⟨sns l,fl,gone,N⟩ (zA bs)).n) 17)] 155,blk g [u',nI most,zI ((zDA most ⟨sns l,fl,gone,N⟩ (zA bs)).floor),.bool ((zDA most ⟨sns l,fl,gone,N⟩ (zA bs)).gone)] 200,row u' 214 4 l'.length (l'.flatMap riV),rws 48 l']):=by
 have hbl:bs.length=m:=by have:=hb.len;simpa [zD] using this
 have hbe:m≤maxLen:=hb.le
 simp only [maxLen] at hbe
 have hrw:(rws 48 l).p w0:=hM _ (by simp)
 have hiv:=zEH hrw
 have hsr:=ho.srt
 have hll:l.length≤most:=by have:=ho.le;rw [zAO] at this;omega
 have hm64:=ho.m64
 have hm1:=ho.m1
 have he17:=zYf (l:=sns l) (most:=most) (fl:=fl) (gone:=gone) (bs:=bs)
 have hN0:=hN 0
 have hN1:=hN 1
 have hN2:=hN 2
 have hN3:=hN 3
 have hN4:=hN 4
 have hN5:=hN 5
 have hN6:=hN 6
 have hN7:=hN 7
 have hN8:=hN 8
 have hN9:=hN 9
 have hN10:=hN 10
 have hN11:=hN 11
 have hN12:=hN 12
 have hN13:=hN 13
 have hN14:=hN 14
 have hN15:=hN 15
 have hN16:=hN 16
 have hN17:=hN 17
 refine zG (F0:=[(0,pt p 0),(1,v)]) func55 rfl rfl rfl (.c (.c .n)) (Mem.start hM rfl hnd) ?_
 refine go 7 [] [12,11,0] .n ?_
 intro a w hs;refine zL hs (.c rfl (.c rfl .n)) call89 .n (zX1 p g _ l most fl gone N _ _ bs _ (hs.mem.del .z) (hs.mem.del (.s .z)) (zK (hs.mem.del (.s (.s .z)))) (hs.mem.del (.s (.s (.s .z)))) ho (hs.rd0 hb)) rfl ?_;clear hs w a;rintro _ _ a w ⟨X1,v2,rfl,hX3,rfl⟩ hs
 revert a w hs
 refine goL 4 [] [6,15,14,0] .n (λg4=>?_)
 intro a w hs;refine zAU hs rfl rfl .z (.z (.c (.c (.c .n)))) (zF rfl (zF rfl (zF (zK (hs.mem.del (.s .z))).isSl.one zAX))) sizeOf46 rfl ?_
 refine goL 3 [] [17,7,6,0] .n ?_
 refine ifG rfl (λc_5=>?_) (λc_5=>?_)
 ·
  have h0:(zBq (sns l) most fl gone (zA bs))=0:=by omega
  have hXe:=hX3 h0;subst hXe
  have hlp:=zYK h0;have hA0:=(zR3 h0).2.2.2.2.1;have hAr:=zU8 hA0
  refine cl (·.sub (F':=[(6,pt g4 0),(0,pt p 0)]) (.c rfl (.c rfl .n))) ?_
  intro a w hs
  refine zH4 (Γ:=Value) (M0:=[blk g4 [zI ((zAi (sns l) (zA bs)).t),zI ((zAi (sns l) (zA bs)).tm),v2] 46,row v2 48 9 ((zAi (sns l) (zA bs)).l.length) ((zAi (sns l) (zA bs)).l.flatMap zBI),blk p [pt g 0,nI most,nI (N 0),nI (N 1),nI (N 2),nI (N 3),nI (N 4),nI (N 5),nI (N 6),nI (N 7),nI (N 8),nI (N 9),nI (N 10),nI (N 11),nI (N 12),nI (N 13),nI (N 14),nI (N 15),nI (N 16),nI (N 17)] 155,rws 48 l]) (Ds:=λgs=>[Pv 0 (pt p 0),Pv 1 (pt p 0),Pv 2 (pt p 0),Pv 3 (pt g 0),Pv 4 (pt g4 0),Pv 5 (zI ((zAi (sns l) (zA bs)).t)),Pv 6 (.agg #[zI ((zAi (sns l) (zA bs)).t),zI ((zAi (sns l) (zA bs)).tm),v2]),⟨[],[],[],λvs6=>vs6 7 = .agg #[zI ((zAi (sns l) (zA bs)).t),zI ((zAi (sns l) (zA bs)).tm),(zGX 2 (vs6 7))],λvs6=>[row (zGX 2 (vs6 7)) 48 9 (((zAi (sns l) (zA bs)).l).length) (((zAi (sns l) (zA bs)).l).flatMap zBI)],none⟩,⟨[row u 214 4 l.length (l.flatMap riV),blk g [u,nI most,zI fl,.bool (gone)] 200],[],[7],λvs6=>vs6 8 = .tuple #[zI (zHX l most (⟨(zAi (sns l) (zA bs)).t,(zAi (sns l) (zA bs)).tm,((zAi (sns l) (zA bs)).l),(zGX 2 (vs6 7))⟩ : RI)),.bool (zHd l most (⟨(zAi (sns l) (zA bs)).t,(zAi (sns l) (zA bs)).tm,((zAi (sns l) (zA bs)).l),(zGX 2 (vs6 7))⟩ : RI)),zI 0],λvs6=>[blk g [(gs 8),nI most,zI (zIp l most fl (⟨(zAi (sns l) (zA bs)).t,(zAi (sns l) (zA bs)).tm,((zAi (sns l) (zA bs)).l),(zGX 2 (vs6 7))⟩ : RI)),.bool (zIm l most gone (⟨(zAi (sns l) (zA bs)).t,(zAi (sns l) (zA bs)).tm,((zAi (sns l) (zA bs)).l),(zGX 2 (vs6 7))⟩ : RI))] 200,row (gs 8) 214 4 ((zGZ l most (⟨(zAi (sns l) (zA bs)).t,(zAi (sns l) (zA bs)).tm,((zAi (sns l) (zA bs)).l),(zGX 2 (vs6 7))⟩ : RI)).length) ((zGZ l most (⟨(zAi (sns l) (zA bs)).t,(zAi (sns l) (zA bs)).tm,((zAi (sns l) (zA bs)).l),(zGX 2 (vs6 7))⟩ : RI)).flatMap riV)],none⟩,⟨[],[],[7],λvs6=>vs6 9 = .tuple #[zI (zHX l most (⟨(zAi (sns l) (zA bs)).t,(zAi (sns l) (zA bs)).tm,((zAi (sns l) (zA bs)).l),(zGX 2 (vs6 7))⟩ : RI)),.bool (zHd l most (⟨(zAi (sns l) (zA bs)).t,(zAi (sns l) (zA bs)).tm,((zAi (sns l) (zA bs)).l),(zGX 2 (vs6 7))⟩ : RI)),zI 0],λvs6=>[],none⟩,⟨[],[],[7],λvs6=>vs6 10=zI (zHX l most (⟨(zAi (sns l) (zA bs)).t,(zAi (sns l) (zA bs)).tm,((zAi (sns l) (zA bs)).l),(zGX 2 (vs6 7))⟩ : RI)),λvs6=>[],none⟩,⟨[],[],[7],λvs6=>vs6 11 = .bool (zHd l most (⟨(zAi (sns l) (zA bs)).t,(zAi (sns l) (zA bs)).tm,((zAi (sns l) (zA bs)).l),(zGX 2 (vs6 7))⟩ : RI)),λvs6=>[],none⟩,Pv 12 (zI 0),Pv 13 (zI 0)]) [[],[],[],[],[],[],[],[],[8],[],[],[],[],[]] (.slice none 0 0:Value) (by kernel_rfl) hs rfl (.c (.s (.s (.s (.s .z)))) (.c (.s (.s (.s .z))) .n)) (by kernel_rfl) (λ_=>by kernel_rfl) (λ_ _=>rfl) (λus_ us'_=>(.c (λ_=>rfl) (.c (λ_=>rfl) (.c (λ_=>rfl) (.c (λ_=>rfl) (.c (λ_=>rfl) (.c (λ_=>rfl) (.c (λ_=>rfl) (.c (λ_=>rfl) (.c (λh=>by have e8:=h 8 (by simp);simp only [e8]) (.c (λ_=>rfl) (.c (λ_=>rfl) (.c (λ_=>rfl) (.c (λ_=>rfl) (.c (λ_=>rfl) .n))))))))))))))) (by kernel_rfl) rfl (by kernel_rfl) (λgs=>?_) ?_
  ·
   refine (.c ?_ (.c ?_ (.c ?_ (.c ?_ (.c ?_ (.c ?_ (.c ?_ (.c ?_ (.g ?_ (.c ?_ (.c ?_ (.c ?_ (.c ?_ (.c ?_ .n))))))))))))))
   · exact zAt (m:=14) .n (λhm0 hm hx=>.n) (by kernel_rfl) (by kernel_rfl) rfl
   · exact zAt (m:=14) (.c (k:=0) (by kernel_rfl) rfl rfl .n) (λhm0 hm hx=>.n) (by kernel_rfl) (by kernel_rfl) rfl
   · exact zAt (m:=14) (.c (k:=1) (by kernel_rfl) rfl rfl .n) (λhm0 hm hx=>.n) (by kernel_rfl) (by kernel_rfl) rfl
   · exact zAt (m:=14) (.c (k:=2) (by kernel_rfl) rfl rfl .n) (λhm0 hm hx=>(.c (hm0.del (.s (.s .z))))) (by kernel_rfl) (by kernel_rfl) rfl
   · exact zAt (m:=14) .n (λhm0 hm hx=>.n) (by kernel_rfl) (by kernel_rfl) rfl
   · exact zAt (m:=14) (.c (k:=4) (by kernel_rfl) rfl rfl .n) (λhm0 hm hx=>(.c (hm0.del .z))) (by kernel_rfl) (by kernel_rfl) rfl
   · exact zAt (m:=14) .n (λhm0 hm hx=>(.c (hm0.del .z))) (by kernel_rfl) (by kernel_rfl) rfl
   ·
    intro a_ w_ R_ rest_ vs6 hm hs ht hx
    have hm0:=hm.mid
    replace hs:=hs.lrn (ht 6 (zJ 14 _ (by kernel_rfl))) rfl rfl
    have hs0:=hs.bare
    refine zL hs (.c rfl .n) call88 .n (zQV ((zAi (sns l) (zA bs)).t) ((zAi (sns l) (zA bs)).tm) _ ((zAi (sns l) (zA bs)).l) _ (zK (hm0.del (.s .z))) (by omega)) rfl ?_;clear hs;rintro _ _ a w ⟨v7,rfl,rfl⟩ hs
    exact wpList_nil ⟨rfl,_,_,hs0,(.c .r),hs,rfl⟩
   ·
    intro a_ w_ R_ rest_ vs6 hm hs ht hx
    replace hs:St _ _ _ (zN [row u 214 4 l.length (l.flatMap riV),blk g [u,nI most,zI fl,.bool (gone)] 200]) [row u 214 4 l.length (l.flatMap riV),blk g [u,nI most,zI fl,.bool (gone)] 200] _ _:=hs
    have hm0:=hm.mid
    replace hs:=hs.lrn (ht 3 (zJ 14 _ (by kernel_rfl))) rfl rfl
    replace hs:=hs.lrn (ht 5 (zJ 14 _ (by kernel_rfl))) rfl rfl
    have t7:=ht 7 (zJ 14 _ (by kernel_rfl))
    have e7:_=some (vs6 7):=t7.val rfl
    rw [show vs6 7 = .agg #[zI ((zAi (sns l) (zA bs)).t),zI ((zAi (sns l) (zA bs)).tm),(zGX 2 (vs6 7))] from t7.2.1] at e7
    replace hs:=hs.learn e7
    have hs0:=hs.bare
    refine zL hs (.c rfl (.c rfl (.c rfl .n))) call90 (.c .z (.c .z .n)) (zOy g u l most fl gone (⟨(zAi (sns l) (zA bs)).t,(zAi (sns l) (zA bs)).tm,((zAi (sns l) (zA bs)).l),(zGX 2 (vs6 7))⟩ : RI) _ (hs.mem.del .z) (hs.mem.del (.s .z)) (hs.mem.ndX (.c .z (.c .z .n))) hsr hll hm64 hm1 hiv (zK (hm.own (List.mem_append.2 (.inr ((ht 7 (zJ 14 _ (by kernel_rfl))).2.2 (zHo (n:=14) (by kernel_rfl)) _ (List.Mem.head _)))))).isSl hlp.1 hlp.2.1 hlp.2.2) rfl ?_;clear hs;rintro _ _ a w ⟨v8,rfl,rfl⟩ hs
    exact wpList_nil ⟨rfl,(v8),_,_,hs0,(.c (.c (.c .r))),hs,rfl⟩
   ·
    intro a_ w_ R_ rest_ vs6 hm hs ht hx
    have hm0:=hm.mid
    have t8:=ht 8 (zJ 14 _ (by kernel_rfl))
    have e8:_=some (vs6 8):=t8.val rfl
    rw [show vs6 8 = .tuple #[zI (zHX l most (⟨(zAi (sns l) (zA bs)).t,(zAi (sns l) (zA bs)).tm,((zAi (sns l) (zA bs)).l),(zGX 2 (vs6 7))⟩ : RI)),.bool (zHd l most (⟨(zAi (sns l) (zA bs)).t,(zAi (sns l) (zA bs)).tm,((zAi (sns l) (zA bs)).l),(zGX 2 (vs6 7))⟩ : RI)),zI 0] from t8.2.1] at e8
    replace hs:=hs.learn e8
    have hs0:=hs.bare
    refine zGN hs rfl rfl ?_;clear hs;intro a w hs
    exact wpList_nil ⟨rfl,_,_,hs0,(.c .r),hs,rfl⟩
   ·
    intro a_ w_ R_ rest_ vs6 hm hs ht hx
    have hm0:=hm.mid
    have t9:=ht 9 (zJ 14 _ (by kernel_rfl))
    have e9:_=some (vs6 9):=t9.val rfl
    rw [show vs6 9 = .tuple #[zI (zHX l most (⟨(zAi (sns l) (zA bs)).t,(zAi (sns l) (zA bs)).tm,((zAi (sns l) (zA bs)).l),(zGX 2 (vs6 7))⟩ : RI)),.bool (zHd l most (⟨(zAi (sns l) (zA bs)).t,(zAi (sns l) (zA bs)).tm,((zAi (sns l) (zA bs)).l),(zGX 2 (vs6 7))⟩ : RI)),zI 0] from t9.2.1] at e9
    replace hs:=hs.learn e9
    have hs0:=hs.bare
    refine zHI hs rfl .z rfl ?_;clear hs;intro a w hs
    exact wpList_nil ⟨rfl,_,_,hs0,(.c .r),hs,rfl⟩
   ·
    intro a_ w_ R_ rest_ vs6 hm hs ht hx
    have hm0:=hm.mid
    have t9:=ht 9 (zJ 14 _ (by kernel_rfl))
    have e9:_=some (vs6 9):=t9.val rfl
    rw [show vs6 9 = .tuple #[zI (zHX l most (⟨(zAi (sns l) (zA bs)).t,(zAi (sns l) (zA bs)).tm,((zAi (sns l) (zA bs)).l),(zGX 2 (vs6 7))⟩ : RI)),.bool (zHd l most (⟨(zAi (sns l) (zA bs)).t,(zAi (sns l) (zA bs)).tm,((zAi (sns l) (zA bs)).l),(zGX 2 (vs6 7))⟩ : RI)),zI 0] from t9.2.1] at e9
    replace hs:=hs.learn e9
    have hs0:=hs.bare
    refine zHI hs rfl (.s .z) rfl ?_;clear hs;intro a w hs
    exact wpList_nil ⟨rfl,_,_,hs0,(.c .r),hs,rfl⟩
   ·
    intro a_ w_ R_ rest_ vs6 hm hs ht hx
    have hm0:=hm.mid
    have t9:=ht 9 (zJ 14 _ (by kernel_rfl))
    have e9:_=some (vs6 9):=t9.val rfl
    rw [show vs6 9 = .tuple #[zI (zHX l most (⟨(zAi (sns l) (zA bs)).t,(zAi (sns l) (zA bs)).tm,((zAi (sns l) (zA bs)).l),(zGX 2 (vs6 7))⟩ : RI)),.bool (zHd l most (⟨(zAi (sns l) (zA bs)).t,(zAi (sns l) (zA bs)).tm,((zAi (sns l) (zA bs)).l),(zGX 2 (vs6 7))⟩ : RI)),zI 0] from t9.2.1] at e9
    replace hs:=hs.learn e9
    have hs0:=hs.bare
    refine zHI hs rfl (.s (.s .z)) rfl ?_;clear hs;intro a w hs
    exact wpList_nil ⟨rfl,_,_,hs0,(.c .r),hs,rfl⟩
   exact zAt (m:=14) (.c (k:=12) (by kernel_rfl) rfl rfl .n) (λhm0 hm hx=>.n) (by kernel_rfl) (by kernel_rfl) rfl
  clear hs w a;intro a w vs6 gs hs hf
  replace hs:St _ _ _ _ [blk g4 [zI ((zAi (sns l) (zA bs)).t),zI ((zAi (sns l) (zA bs)).tm),v2] 46,row v2 48 9 ((zAi (sns l) (zA bs)).l.length) ((zAi (sns l) (zA bs)).l.flatMap zBI),blk p [pt g 0,nI most,nI (N 0),nI (N 1),nI (N 2),nI (N 3),nI (N 4),nI (N 5),nI (N 6),nI (N 7),nI (N 8),nI (N 9),nI (N 10),nI (N 11),nI (N 12),nI (N 13),nI (N 14),nI (N 15),nI (N 16),nI (N 17)] 155,rws 48 l,row (zGX 2 (vs6 7)) 48 9 (((zAi (sns l) (zA bs)).l).length) (((zAi (sns l) (zA bs)).l).flatMap zBI),blk g [(gs 8),nI most,zI (zIp l most fl (⟨(zAi (sns l) (zA bs)).t,(zAi (sns l) (zA bs)).tm,((zAi (sns l) (zA bs)).l),(zGX 2 (vs6 7))⟩ : RI)),.bool (zIm l most gone (⟨(zAi (sns l) (zA bs)).t,(zAi (sns l) (zA bs)).tm,((zAi (sns l) (zA bs)).l),(zGX 2 (vs6 7))⟩ : RI))] 200,row (gs 8) 214 4 ((zGZ l most (⟨(zAi (sns l) (zA bs)).t,(zAi (sns l) (zA bs)).tm,((zAi (sns l) (zA bs)).l),(zGX 2 (vs6 7))⟩ : RI)).length) ((zGZ l most (⟨(zAi (sns l) (zA bs)).t,(zAi (sns l) (zA bs)).tm,((zAi (sns l) (zA bs)).l),(zGX 2 (vs6 7))⟩ : RI)).flatMap riV)] _ _:=hs
  obtain ⟨e13,q13⟩:=hf 13 (by decide)
  replace e13:_=some (vs6 13):=e13.val rfl
  rw [show vs6 13=zI 0 from q13] at e13
  replace hs:=hs.learn e13;clear e13 q13
  generalize (gs 8)=v9 at hs
  generalize zGX 2 (vs6 7)=v10 at hs
  clear hf
  revert a w hs
  refine goE 0 [] [7,6,0] .n ?_
  intro a w hs
  refine zO [.p [] [],.p [] [],.p [0] [],.p [2] [],.p [3,1] [],.l [4] [0] [10] [],.p [5] [],.p [0] [],.p [7] [],.p [8,1] [],.s [9,6] [0] [0] []] [] hs (.c (.s (.s .z)) .n) .n (by kernel_rfl) ⟨rfl,(by have:=hN (zBq (sns l) most fl gone (zA bs));omega),rfl,⟨rfl,by kernel_rfl,λ_=>rfl,rfl,rfl,trivial⟩,λ_=>rfl,?_⟩
  refine zcR 6 2 [] [42,7,6] .n ?_
  refine go 5 [0] [5,4] (.c .z .n) ⟨rfl,?_⟩
  refine cl (·.rwsLay (most:=most) (x:=(⟨(zAi (sns l) (zA bs)).t,(zAi (sns l) (zA bs)).tm,((zAi (sns l) (zA bs)).l),v10⟩ : RI)) (.c (.s (.s .z)) (.c (.s (.s .z)) .n))) ?_
  refine cl (·.drop (.c (.s (.s .z)) (.c (.s .z) .n))) ?_
  refine cl (·.reorder (.c (.s (.s (.s .z))) (.c (.s .z) (.c (.s .z) (.c .z .n))))) ?_
  refine cl (·.reblk .z (cs':=[pt g 0,nI most,nI (zBc N 0 0),nI (zBc N 0 1),nI (zBc N 0 2),nI (zBc N 0 3),nI (zBc N 0 4),nI (zBc N 0 5),nI (zBc N 0 6),nI (zBc N 0 7),nI (zBc N 0 8),nI (zBc N 0 9),nI (zBc N 0 10),nI (zBc N 0 11),nI (zBc N 0 12),nI (zBc N 0 13),nI (zBc N 0 14),nI (zBc N 0 15),nI (zBc N 0 16),nI (zBc N 0 17)]) rfl) ?_
  obtain ⟨hT_,hS_⟩:=zTk (N:=N) v10 h0
  intro a w hs;exact zBO hs rfl rfl rfl ⟨by rw [hT_,h0];rfl,_,zGZ l most (⟨(zAi (sns l) (zA bs)).t,(zAi (sns l) (zA bs)).tm,((zAi (sns l) (zA bs)).l),v10⟩ : RI),by rw [hS_],by rw [hS_]⟩
 refine go 0 [] [7,6,0] .n ?_
 intro a w hs
 refine zAQ [.p [] [],.p [] [],.p [0] [],.p [2] [],.v [3,1] (pt p (2+(zBq (sns l) most fl gone (zA bs)))),.y [4] (nI (N (zBq (sns l) most fl gone (zA bs)))) [] [] [] λvs12=>[],.p [5] [],.p [0] [],.p [7] [],.v [8,1] (pt p (2+(zBq (sns l) most fl gone (zA bs)))),.x [9,6] ⟨[blk p [pt g 0,nI most,nI (N 0),nI (N 1),nI (N 2),nI (N 3),nI (N 4),nI (N 5),nI (N 6),nI (N 7),nI (N 8),nI (N 9),nI (N 10),nI (N 11),nI (N 12),nI (N 13),nI (N 14),nI (N 15),nI (N 16),nI (N 17)] 155],[],[],λvs12=>True,λvs12=>[blk p [pt g 0,nI most,nI (zBc N (zBq (sns l) most fl gone (zA bs)) 0),nI (zBc N (zBq (sns l) most fl gone (zA bs)) 1),nI (zBc N (zBq (sns l) most fl gone (zA bs)) 2),nI (zBc N (zBq (sns l) most fl gone (zA bs)) 3),nI (zBc N (zBq (sns l) most fl gone (zA bs)) 4),nI (zBc N (zBq (sns l) most fl gone (zA bs)) 5),nI (zBc N (zBq (sns l) most fl gone (zA bs)) 6),nI (zBc N (zBq (sns l) most fl gone (zA bs)) 7),nI (zBc N (zBq (sns l) most fl gone (zA bs)) 8),nI (zBc N (zBq (sns l) most fl gone (zA bs)) 9),nI (zBc N (zBq (sns l) most fl gone (zA bs)) 10),nI (zBc N (zBq (sns l) most fl gone (zA bs)) 11),nI (zBc N (zBq (sns l) most fl gone (zA bs)) 12),nI (zBc N (zBq (sns l) most fl gone (zA bs)) 13),nI (zBc N (zBq (sns l) most fl gone (zA bs)) 14),nI (zBc N (zBq (sns l) most fl gone (zA bs)) 15),nI (zBc N (zBq (sns l) most fl gone (zA bs)) 16),nI (zBc N (zBq (sns l) most fl gone (zA bs)) 17)] 155],none⟩] [] hs .n (.c (.s (.s .z)) .n) .n (by kernel_rfl) ⟨λ_ _ _ _ hm hs K=>zQT (j:=zBq (sns l) most fl gone (zA bs)) hs rfl rfl underlying76 (by omega) sizeOf3 rfl (vk K),(by have:=hN (zBq (sns l) most fl gone (zA bs));omega),λ_ _ _ _ hm hs K=>zQT (j:=zBq (sns l) most fl gone (zA bs)) hs rfl rfl underlying76 (by omega) sizeOf3 rfl (vk K),⟨(.c .z .n),by kernel_rfl,λ_=>rfl,rfl,rfl⟩,⟨?_,?_,trivial⟩,?_⟩
 ·
  intro a_ w_ R_ rest_ vs12 hm hs ht hx
  have hs0:=hs.bare
  refine zKR (v:=nI (N (zBq (sns l) most fl gone (zA bs)))) hs rfl (hm.own (List.mem_append.2 (.inr ((hx 10 (zJ 11 _ (by kernel_rfl))).1 _ (List.Mem.head _))))) (zXY (by omega)) isAgg3 rfl ?_;clear hs;intro a w hs
  exact wpList_nil ⟨rfl,_,_,hs0,(.c .r),hs,rfl⟩
 ·
  intro a_ w_ R_ rest_ vs12 hm hs ht hx
  have hs0:=hs.bare
  refine zSZ (cs':=[pt g 0,nI most,nI (zBc N (zBq (sns l) most fl gone (zA bs)) 0),nI (zBc N (zBq (sns l) most fl gone (zA bs)) 1),nI (zBc N (zBq (sns l) most fl gone (zA bs)) 2),nI (zBc N (zBq (sns l) most fl gone (zA bs)) 3),nI (zBc N (zBq (sns l) most fl gone (zA bs)) 4),nI (zBc N (zBq (sns l) most fl gone (zA bs)) 5),nI (zBc N (zBq (sns l) most fl gone (zA bs)) 6),nI (zBc N (zBq (sns l) most fl gone (zA bs)) 7),nI (zBc N (zBq (sns l) most fl gone (zA bs)) 8),nI (zBc N (zBq (sns l) most fl gone (zA bs)) 9),nI (zBc N (zBq (sns l) most fl gone (zA bs)) 10),nI (zBc N (zBq (sns l) most fl gone (zA bs)) 11),nI (zBc N (zBq (sns l) most fl gone (zA bs)) 12),nI (zBc N (zBq (sns l) most fl gone (zA bs)) 13),nI (zBc N (zBq (sns l) most fl gone (zA bs)) 14),nI (zBc N (zBq (sns l) most fl gone (zA bs)) 15),nI (zBc N (zBq (sns l) most fl gone (zA bs)) 16),nI (zBc N (zBq (sns l) most fl gone (zA bs)) 17)]) hs rfl rfl .z (by show 2+zBq (sns l) most fl gone (zA bs)<20;omega) (zYk (by omega)) rfl sizeOf3 ?_;clear hs;intro a w hs
  exact wpList_nil ⟨rfl,.tuple #[],_,hs0,(.c (.c .r)),hs,trivial⟩
 clear hs w a;intro vs12 a w hs hf
 clear hf
 revert a w hs
 refine zcR 6 2 [] [42,7,6] .n ?_
 have hb_:(!((((zBq (sns l) most fl gone (zA bs):Nat):Int):Int)==0))=true:=by rw [Bool.not_eq_true',beq_eq_false_iff_ne];omega
 intro a w hs;rw [hb_] at hs;clear hb_
 revert a w hs
 refine go 4 [] [5,4] .n ?_
 refine cl (·.drop (.c (.s .z) (.c .z .n))) ?_
 refine cl (·.reorder (.c (.s (.s (.s .z))) (.c .z (.c .z (.c .z .n))))) ?_
 obtain ⟨hT_,hS_⟩:=zY8 (N:=N) (rfl:(zBq (sns l) most fl gone (zA bs))=_) (by omega)
 intro a w hs;exact zBO hs rfl rfl rfl ⟨by rw [hT_],_,l,by rw [hS_],by rw [hS_]⟩
def zZz (p g:Nat) (u:Value) (l:List RI) (most:Nat) (fl:Int) (gone:Bool) (N:Nat→Nat):List HA:=[blk p [pt g 0,nI most,nI (N 0),nI (N 1),nI (N 2),nI (N 3),nI (N 4),nI (N 5),nI (N 6),nI (N 7),nI (N 8),nI (N 9),nI (N 10),nI (N 11),nI (N 12),nI (N 13),nI (N 14),nI (N 15),nI (N 16),nI (N 17)] 155,blk g [u,nI most,zI fl,.bool (gone)] 200,row u 214 4 l.length (l.flatMap riV),rws 48 l]
def Sto (p most:Nat) (σ:Stt) (X:HA):Prop:=∃ (g:Nat) (u:Value) (l:List RI),σ.l=sns l∧Oks σ.l most∧X=zFy (zZz p g u l most σ.floor σ.gone σ.n)
theorem zZh (p g:Nat) (u:Value) (l:List RI) (most:Nat) (fl:Int) (gone:Bool) (N:Nat→Nat) (w0:World) (hp:(blk p [pt g 0,nI most,nI (N 0),nI (N 1),nI (N 2),nI (N 3),nI (N 4),nI (N 5),nI (N 6),nI (N 7),nI (N 8),nI (N 9),nI (N 10),nI (N 11),nI (N 12),nI (N 13),nI (N 14),nI (N 15),nI (N 16),nI (N 17)] 155).p w0) (hg:(blk g [u,nI most,zI fl,.bool (gone)] 200).p w0) (hu:Rd w0 [] u 4 l.length (l.flatMap riV)) (hrw:(rws 48 l).p w0) (ho:Oks (sns l) most):Calls Tryz.prog 85 #[pt p 0] w0 (zAh w0 (nI l.length)):=by
 have hiv:=zEH hrw
 have hsr:=ho.srt
 have hll:l.length≤100000:=by have:=ho.le;have:=ho.m64;rw [zAO] at *;omega
 have hm64:=ho.m64
 refine zG (F0:=[(0,pt p 0)]) func85 rfl rfl rfl (.c .n) (Mem.nil _) ?_
 refine go 7 [] [7] .n ?_
 intro a w hs;refine zAC hs rfl (hs.mem.keep hp (by simp [zN,blk])) .z isAgg151 rfl ?_
 intro a w hs;refine zB (v:=nI l.length) hs (.c rfl .n) call123 (zCf g _ l most fl gone _ (hs.rd0 hu) (hs.mem.keep hg (by simp [zN,blk])) hsr (by omega) hiv) rfl ?_
 refine goL 1 [] [2] .n ?_
 intro a w hs;exact fin hs rfl rfl ⟨rfl,rfl⟩
theorem zax (p g:Nat) (u:Value) (l:List RI) (most:Nat) (fl:Int) (gone:Bool) (N:Nat→Nat) (i:Int) (w0:World) (hp:(blk p [pt g 0,nI most,nI (N 0),nI (N 1),nI (N 2),nI (N 3),nI (N 4),nI (N 5),nI (N 6),nI (N 7),nI (N 8),nI (N 9),nI (N 10),nI (N 11),nI (N 12),nI (N 13),nI (N 14),nI (N 15),nI (N 16),nI (N 17)] 155).p w0) (hg:(blk g [u,nI most,zI fl,.bool (gone)] 200).p w0) (hu:Rd w0 [] u 4 l.length (l.flatMap riV)) (hrw:(rws 48 l).p w0) (ho:Oks (sns l) most):Calls Tryz.prog 86 #[pt p 0,zI i] w0 (Ret w0 [] λz Nn=>∃ v,z = .tuple #[.agg #[zI (rat l i).t,zI (rat l i).tm,v],nI (zLN (sns l) i)]∧Nn=[row v 48 9 ((rat l i).l.length) ((rat l i).l.flatMap zBI)]):=by
 have hiv:=zEH hrw
 have hsr:=ho.srt
 have hll:l.length≤100000:=by have:=ho.le;have:=ho.m64;rw [zAO] at *;omega
 have hm64:=ho.m64
 have hrl:=zYW ho i
 refine zG (F0:=[(0,pt p 0),(1,zI i)]) func86 rfl rfl rfl (.c (.c .n)) (Mem.nil _) ?_
 refine go 8 [] [15,4,1] .n (λg1=>?_)
 intro a w hs;refine zAC hs rfl (hs.mem.keep hp (by simp [zN,blk])) .z isAgg151 rfl ?_
 refine goL 1 [] [17,16,4] .n ?_
 intro a w hs;refine zB (v:=.tuple #[zI ((rat l i).t),.agg #[zI ((rat l i).t),zI ((rat l i).tm),(rat l i).v],nI (zLN (sns l) i)]) hs (.c rfl (.c rfl .n)) call124 (zIC g _ l most fl gone i _ (hs.rd0 hu) (hs.mem.keep hg (by simp [zN,blk])) hsr (by omega) hiv) rfl ?_
 refine goL 6 [] [7,21,20,4] .n (λg2=>?_)
 intro a w hs;refine zAU hs rfl rfl .z (.z (.c (.c (.c .n)))) (zF rfl (zF rfl (zF (zC4 (hs.mem.keepH hrw (by simp)) (zKV l i)).isSl.one zAX))) sizeOf46 rfl ?_
 refine goL 2 [0] [22,8,4] (.c .z .n) ⟨rfl,?_⟩
 intro a w hs;refine zL hs (.c rfl .n) call88 .n (zQV ((rat l i).t) ((rat l i).tm) _ ((rat l i).l) _ (zC4 (hs.mem.keepH hrw (by simp)) (zKV l i)) (by omega)) rfl ?_;clear hs w a;rintro _ _ a w ⟨v3,rfl,rfl⟩ hs
 revert a w hs
 refine goL 1 [] [24,23,4] .n ?_
 intro a w hs;refine zAU hs rfl rfl (.s (.s .z)) (.z (.c (.c (.c .n)))) (zF rfl (zF rfl (zF (zK (hs.mem.del .z)).isSl.one zAX))) sizeOf46 rfl ?_
 refine goL 1 [] [5,4] .n ?_
 intro a w hs;exact zBM hs rfl rfl rfl .z (.z (.c (.c (.c .n)))) isAgg46 sizeOf46 (.c (.s (.s .z)) (.c .z .n)) ⟨_,rfl,rfl⟩
theorem zYs (p g:Nat) (u:Value) (l:List RI) (most:Nat) (fl:Int) (gone:Bool) (N:Nat→Nat) (k:Int) (w0:World) (hp:(blk p [pt g 0,nI most,nI (N 0),nI (N 1),nI (N 2),nI (N 3),nI (N 4),nI (N 5),nI (N 6),nI (N 7),nI (N 8),nI (N 9),nI (N 10),nI (N 11),nI (N 12),nI (N 13),nI (N 14),nI (N 15),nI (N 16),nI (N 17)] 155).p w0) (hg:(blk g [u,nI most,zI fl,.bool (gone)] 200).p w0) (hu:Rd w0 [] u 4 l.length (l.flatMap riV)) (hrw:(rws 48 l).p w0) (ho:Oks (sns l) most):Calls Tryz.prog 53 #[pt p 0,zI k] w0 (Ret w0 [] λz Nn=>∃ v,z = .tuple #[.agg #[zI (zAd l k).t,zI (zAd l k).tm,v],.bool (zDl (sns l) k)]∧Nn=[row v 48 9 ((zAd l k).l.length) ((zAd l k).l.flatMap zBI)]):=by
 have hiv:=zEH hrw
 have hsr:=ho.srt
 have hll:l.length≤100000:=by have:=ho.le;have:=ho.m64;rw [zAO] at *;omega
 have hm64:=ho.m64
 have hrl:=zNb ho k
 refine zG (F0:=[(0,pt p 0),(1,zI k)]) func53 rfl rfl rfl (.c (.c .n)) (Mem.nil _) ?_
 refine go 8 [] [14,4,1] .n (λg1=>?_)
 intro a w hs;refine zAC hs rfl (hs.mem.keep hp (by simp [zN,blk])) .z isAgg151 rfl ?_
 refine goL 1 [] [16,15,4] .n ?_
 intro a w hs;refine zB (v:=.tuple #[.agg #[zI ((zAd l k).t),zI ((zAd l k).tm),(zAd l k).v],.bool (zDl (sns l) k)]) hs (.c rfl (.c rfl .n)) call87 (zGz g _ l most fl gone k _ (hs.rd0 hu) (hs.mem.keep hg (by simp [zN,blk])) hsr (by omega) hiv) rfl ?_
 refine goL 4 [] [6,19,18,4] .n (λg2=>?_)
 intro a w hs;refine zAU hs rfl rfl .z (.z (.c (.c (.c .n)))) (zF rfl (zF rfl (zF (zC4 (hs.mem.keepH hrw (by simp)) (zFB l k hsr)).isSl.one zAX))) sizeOf46 rfl ?_
 refine goL 2 [0] [20,7,4] (.c .z .n) ⟨rfl,?_⟩
 intro a w hs;refine zL hs (.c rfl .n) call88 .n (zQV ((zAd l k).t) ((zAd l k).tm) _ ((zAd l k).l) _ (zC4 (hs.mem.keepH hrw (by simp)) (zFB l k hsr)) (by omega)) rfl ?_;clear hs w a;rintro _ _ a w ⟨v3,rfl,rfl⟩ hs
 revert a w hs
 refine goL 1 [] [22,21,4] .n ?_
 intro a w hs;refine zAU hs rfl rfl (.s (.s .z)) (.z (.c (.c (.c .n)))) (zF rfl (zF rfl (zF (zK (hs.mem.del .z)).isSl.one zAX))) sizeOf46 rfl ?_
 refine goL 1 [] [5,4] .n ?_
 intro a w hs;exact zBM hs rfl rfl rfl .z (.z (.c (.c (.c .n)))) isAgg46 sizeOf46 (.c (.s (.s .z)) (.c .z .n)) ⟨_,rfl,rfl⟩
theorem zQJ (k:Nat) (w0:World) (h:1≤k∧k≤64):Calls Tryz.prog 72 #[nI k] w0 (Ret w0 [] λz N=>∃ g,z = .tuple #[pt g 0,.int .i64 0]∧N=[blk g [.slice none 0 0,nI k,zI 0,.bool (false)] 200]):=by
 refine zG (F0:=[(0,nI k)]) func72 rfl rfl rfl (.c .n) (Mem.nil _) ?_
 refine go 4 [] [5,0] .n ?_
 have hb_:(decide (((k:Nat):Int)<1))=false:=decide_eq_false (by omega)
 intro a w hs;rw [hb_] at hs;clear hb_
 revert a w hs
 refine go 3 [] [8,6,0] .n ?_
 have hb_:(decide (64<((k:Nat):Int)))=false:=decide_eq_false (by omega)
 intro a w hs;rw [hb_] at hs;clear hb_
 revert a w hs
 refine go 7 [0] [3,2] .n (λg1=>?_)
 intro a w hs;exact zBO hs rfl rfl rfl ⟨_,rfl,rfl⟩
theorem zY2 (k:Nat) (w0:World) (hk:1≤k∧k≤64):Calls Tryz.prog 38 #[nI k] w0 (Ret w0 [] λz N=>∃ p g,z = .tuple #[pt p 0,.int .i64 0]∧N=zZz p g (.slice none 0 0) [] k 0 false (λ_=>0)):=by
 refine zG (F0:=[(0,nI k)]) func38 rfl rfl rfl (.c .n) (Mem.nil _) ?_
 refine go 3 [] [7,0] .n ?_
 intro a w hs;refine zL hs (.c rfl .n) call72 .n (zQJ k _ hk) rfl ?_;clear hs w a;rintro _ _ a w ⟨g1,rfl,rfl⟩ hs
 revert a w hs
 refine goL 14 [0] [3,2] .n (λg2=>?_)
 refine cl (·.addNil 214 4) ?_
 refine cl (·.addRws 48) ?_
 refine cl (·.reorder (.c (.s (.s .z)) (.c (.s (.s .z)) (.c (.s .z) (.c .z .n))))) ?_
 intro a w hs;exact zBO hs rfl rfl rfl ⟨_,_,rfl,rfl⟩
theorem zJ4 {p most:Nat} {σ:Stt} {X:HA} {w:World} (hX:Sto p most σ X) (hp:X.p w):∃ (g:Nat) (u:Value) (l:List RI),σ.l=sns l∧Oks (sns l) most∧(blk p [pt g 0,nI most,nI (σ.n 0),nI (σ.n 1),nI (σ.n 2),nI (σ.n 3),nI (σ.n 4),nI (σ.n 5),nI (σ.n 6),nI (σ.n 7),nI (σ.n 8),nI (σ.n 9),nI (σ.n 10),nI (σ.n 11),nI (σ.n 12),nI (σ.n 13),nI (σ.n 14),nI (σ.n 15),nI (σ.n 16),nI (σ.n 17)] 155).p w∧(blk g [u,nI most,zI σ.floor,.bool (σ.gone)] 200).p w∧Rd w [] u 4 l.length (l.flatMap riV)∧(rws 48 l).p w:=by
 obtain ⟨g,u,l,hl,ho,rfl⟩:=hX
 refine ⟨g,u,l,hl,hl ▸ ho,hp.1 _ (by simp [zZz]),hp.1 _ (by simp [zZz]),zK (hp.1 (row u 214 4 l.length (l.flatMap riV)) (by simp [zZz])),hp.1 _ (by simp [zZz])⟩
theorem zbO {p most:Nat} {σ:Stt} {X:HA} (hX:Sto p most σ X) (w0:World) (hp:X.p w0):Calls Tryz.prog 85 #[pt p 0] w0 (zAh w0 (nI σ.l.length)):=by
 obtain ⟨g,u,l,hl,ho,h1,h2,h3,h4⟩:=zJ4 hX hp
 rw [hl,zAO]
 exact zZh p g u l most σ.floor σ.gone σ.n w0 h1 h2 h3 h4 ho
theorem zcf {p most:Nat} {σ:Stt} {X:HA} (hX:Sto p most σ X) (i:Int) (w0:World) (hp:X.p w0):Calls Tryz.prog 86 #[pt p 0,.int .i64 i] w0 (Ret w0 [] λz N=>∃ v,z = .tuple #[.agg #[zI (sat σ.l i).t,zI (sat σ.l i).tm,v],nI (zLN σ.l i)]∧N=[row v 48 9 (sat σ.l i).l.length ((sat σ.l i).l.flatMap zBI)]):=by
 obtain ⟨g,u,l,hl,ho,h1,h2,h3,h4⟩:=zJ4 hX hp
 rw [hl,← zEY l i]
 exact zax p g u l most σ.floor σ.gone σ.n i w0 h1 h2 h3 h4 ho
theorem zWr {p most:Nat} {σ:Stt} {X:HA} (hX:Sto p most σ X) (k:Int) (w0:World) (hp:X.p w0):Calls Tryz.prog 53 #[pt p 0,.int .i64 k] w0 (Ret w0 [] λz N=>∃ v,z = .tuple #[.agg #[zI (zCM σ.l k).t,zI (zCM σ.l k).tm,v],.bool (zDl σ.l k)]∧N=[row v 48 9 (zCM σ.l k).l.length ((zCM σ.l k).l.flatMap zBI)]):=by
 obtain ⟨g,u,l,hl,ho,h1,h2,h3,h4⟩:=zJ4 hX hp
 rw [hl,← zKG l k ho.srt]
 exact zYs p g u l most σ.floor σ.gone σ.n k w0 h1 h2 h3 h4 ho
theorem zQH {p most:Nat} {σ:Stt} {X:HA} (hX:Sto p most σ X) (hN:∀ i,σ.n i≤1000000) {v:Value} {m:Nat} {bs:List zQ} (w0:World) (hp:X.p w0) (hb:Rd w0 (zN [X]) v 1 m (zD bs)):Calls Tryz.prog 55 #[pt p 0,v] w0 (Ret w0 (zN [X]) λz Nn=>z = .tuple #[zI (zJb σ.l most σ.floor σ.gone (zA bs)),nI (zBq σ.l most σ.floor σ.gone (zA bs))]∧∃ X',Nn=[X']∧Sto p most (zDA most σ (zA bs)) X'):=by
 have hok:=hX.imp λg h=>h
 obtain ⟨g,u,l,hl,ho,rfl⟩:=hX
 obtain ⟨L,fl,gone,N⟩:=σ
 simp only at hl ho hN
 subst hl
 obtain ⟨hall,hnd⟩:=hp
 rw [zBw] at hb ⊢
 refine (zSF p g u l most fl gone N v m bs w0 hall hnd ho hN hb).mono ?_
 rintro e w' ⟨z,Nn,rfl,⟨rfl,u',l',hl',rfl⟩,hM⟩
 exact ⟨_,_,rfl,⟨rfl,_,rfl,g,u',l',hl',zY0 (σ:=⟨sns l,fl,gone,N⟩) ho,rfl⟩,hM.sep⟩
theorem zbb (k:Nat) (w0:World) (hk:1≤k∧k≤64):Calls Tryz.prog 38 #[nI k] w0 (Ret w0 [] λz N=>∃ p X,z = .tuple #[pt p 0,.int .i64 0]∧N=[X]∧Sto p k zaF X):=by
 refine (zY2 k w0 hk).mono ?_
 rintro e w' ⟨z,Nn,rfl,⟨p,g,rfl,rfl⟩,hM⟩
 exact ⟨_,_,rfl,⟨p,_,rfl,rfl,g,_,[],rfl,zcb hk,rfl⟩,hM.sep⟩
end Go.Proofs.YtljpfgacpofkpaaGreat
