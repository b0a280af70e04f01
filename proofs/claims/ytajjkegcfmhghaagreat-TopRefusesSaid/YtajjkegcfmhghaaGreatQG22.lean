import Derived.Test.YtajjkegcfmhghaaGreatQG20
import Derived.Test.YtajjkegcfmhghaaGreatQG21
import Derived.Test.YtajjkegcfmhghaaGreatQSxBasB
set_option linter.unusedVariables false
set_option linter.unusedSimpArgs false
namespace Go.Proofs.YtajjkegcfmhghaaGreat
open Tryz
open Go Go.Sx Go.RowKit
set_option maxRecDepth 4000
set_option maxHeartbeats 1000000
theorem zYV (p g:Nat) (u:Value) (l:List RI) (most:Nat) (fl:Int) (gone:Bool) (N:Nat→Nat) (v:Value) (m:Nat) (bs:List zN) (w0:World) (hp:(blk p [pt g 0,nI most,nI (N 0),nI (N 1),nI (N 2),nI (N 3),nI (N 4),nI (N 5),nI (N 6),nI (N 7),nI (N 8),nI (N 9),nI (N 10),nI (N 11),nI (N 12),nI (N 13),nI (N 14),nI (N 15),nI (N 16),nI (N 17)] 126).p w0) (hg:(blk g [u,nI most,zI fl,.bool (gone)] 188).p w0) (hu:Rd w0 [] u 4 l.length (l.flatMap riV)) (hrw:(rws 48 l).p w0) (ho:Oks (sns l) most) (hb:Rd w0 [] v 1 m (zC bs)):Calls Tryz.prog 61 #[pt p 0,v] w0 (Ret w0 [] λz Nn=>∃ (X:zAH) (xv:Value),z = .tuple #[.agg #[.int .i64 X.t,.int .i64 X.tm,xv],nI (zBO (sns l) most fl gone (zA bs))]∧(zBO (sns l) most fl gone (zA bs)=0→X=(zAP (sns l) (zA bs)))∧Nn=[row xv 48 9 X.l.length (X.l.flatMap zBJ)]):=by
 have hbl:bs.length=m:=by have:=hb.len;simpa [zC] using this
 have hbe:m≤maxLen:=hb.le
 simp only [maxLen] at hbe
 have hiv:=zEc hrw
 have hsr:=ho.srt
 have hll:l.length≤100000:=by have:=ho.le;have:=ho.m64;rw [zAO] at *;omega
 have hgl:=zIQ bs
 have hbr:=zPX ho (zA bs).b
 refine zG (F0:=[(0,pt p 0),(1,v)]) func61 rfl rfl rfl (.c (.c .n)) (Mem.nil _) ?_
 refine go 3 [] [13,5,4,0] .n (λg1=>λg2=>?_)
 intro a w hs;refine zK hs (.c rfl .n) call94 .n (zUk _ _ bs _ (hs.rd0 hb)) rfl ?_;clear hs w a;rintro _ _ a w ⟨v3,rfl,rfl⟩ hs
 have hk4:=zIQ bs
 revert a w hs
 refine goL 4 [] [6,16,15,5,4,0] .n (λg5=>?_)
 intro a w hs;refine zAb hs rfl rfl .z (.z (.c (.c (.c (.c .n))))) (zJ rfl (zJ rfl (zJ rfl (zJ (zP (hs.mem.del (.s .z))).isSl.one zAe)))) sizeOf62 rfl ?_
 refine goL 3 [0,0] [18,6,5,4,0] (.c (.s (.s .z)) .n) ⟨rfl,rfl,?_⟩
 refine ifG rfl (λc_6=>?_) (λc_6=>?_)
 ·
  refine cl (·.addNil 48 9) ?_
  refine go 0 [] [5,4] .n ?_
  intro a w hs
  refine zR [.l [] [0] [2] [],.l [] [0] [3] [],.s [0] [0] [0] [],.s [1] [0] [1] []] [] hs (.c (.s (.s (.s (.s .z)))) (.c (.s .z) .n)) .n (by kernel_rfl) ⟨rfl,rfl,rfl,rfl,⟨rfl,by kernel_rfl,λ_=>rfl,rfl,rfl,trivial⟩,λ_=>rfl,?_⟩
  refine goE 0 [] [5,4] .n ?_
  intro a w hs;exact zRy hs rfl rfl rfl (.s (.s (.s .z))) (.z (.c (.c (.c .n)))) isAgg46 sizeOf46 (.s (.s (.s (.s .z)))) .z isAgg34 (.c (.s (.s (.s (.s .z)))) (.c (.s (.s (.s .z))) (.c (.s (.s .z)) (.c (.s .z) .n)))) ⟨default,_,by rw [zTQ (by omega)]<;>rfl,λh=>absurd h (by rw [zTQ (by omega)];omega),rfl⟩
 refine go 2 [] [7,6,5,4,0] .n ?_
 intro a w hs
 refine zAS [.p [] [],.p [0] [],.p [1] [],.v [2] (pt g 0),.p [] [],.p [4] [0],.v [5,3] (.tuple #[.agg #[zI ((zAd l ((zA bs).t)).t),zI ((zAd l ((zA bs).t)).tm),(zAd l ((zA bs).t)).v],.bool (zDA (sns l) ((zA bs).t))]),.p [6] [],.p [7] [],.p [7] [],.x [] ⟨[],[],[],λvs8=>vs8 10=pt (zDC (vs8 10)) 0,λvs8=>[blk (zDC (vs8 10)) [zI 0,zI 0,.slice none 0 0] 46],none⟩,.x [8] ⟨[],[10],[10],λvs8=>True,λvs8=>[blk (zDC (vs8 10)) [zI ((zAd l ((zA bs).t)).t),zI ((zAd l ((zA bs).t)).tm),(zAd l ((zA bs).t)).v] 46],none⟩,.p [9] []] [12] hs .n .n (.c (.s .z) .n) (by kernel_rfl) ⟨λ_ _ _ _ hm hs K=>zZ hs rfl (hm.keep hp (by simp [zO,blk])) .z isAgg123 rfl (vk K),rfl,λ_ _ _ _ hm hs K=>zB (v:=.tuple #[.agg #[zI ((zAd l ((zA bs).t)).t),zI ((zAd l ((zA bs).t)).tm),(zAd l ((zA bs).t)).v],.bool (zDA (sns l) ((zA bs).t))]) hs (.c rfl (.c rfl .n)) call64 (zHT g _ l most fl gone ((zA bs).t) _ (hm.rd0 hu) (hm.keep hg (by simp [zO,blk])) hsr (by omega) hiv) rfl (vk K),⟨.n,by kernel_rfl,λ_=>rfl,rfl,rfl⟩,⟨?_,?_,trivial⟩,?_⟩
 ·
  intro a_ w_ R_ rest_ vs8 hm hs ht hx
  have hs0:=hs.bare
  refine zCy (cs:=[zI 0,zI 0,.slice none 0 0]) hs zeroValue46 rfl rfl ?_;clear hs;intro g9 a w hs
  exact wpList_nil ⟨rfl,_,_,hs0,.r,hs,rfl⟩
 ·
  intro a_ w_ R_ rest_ vs8 hm hs ht hx
  have t10:=ht 10 (zD 13 _ (by kernel_rfl))
  have e10:_=some (vs8 10):=t10.val rfl
  rw [show vs8 10=pt (zDC (vs8 10)) 0 from t10.2.1] at e10
  replace hs:=hs.learn e10
  have hs0:=hs.bare
  refine zAb hs rfl rfl .z (.z (.c (.c (.c .n)))) (zJ rfl (zJ rfl (zJ (zEj (hm.keepH hrw (by simp)) (zFT l ((zA bs).t) hsr)).isSl.one zAe))) sizeOf46 rfl ?_;clear hs;intro a w hs
  exact wpList_nil ⟨rfl,.tuple #[],_,hs0,(.c (.c .r)),hs,trivial⟩
 clear hs w a;intro vs8 a w hs hf
 generalize zDC (vs8 10)=g10 at hs
 clear hf
 revert a w hs
 refine goE 2 [] [33,32,7,6,5,4,0] .n ?_
 intro a w hs;refine zBE (us:=[pt g2 0]) hs rfl (.c rfl (.c rfl .n)) rfl call95 (.c .z .n) (zFN (zDA (sns l) ((zA bs).t)) 12 ((zA bs).e) g2 _ _ (hs.mem.del .z)) rfl ?_;clear hs w a;rintro _ _ a w ⟨rfl,rfl⟩ hs
 revert a w hs
 refine goL 4 [0] [38,36,35,7,6,5,4,0] (.c (.s .z) .n) ⟨rfl,?_⟩
 intro a w hs;refine zB (v:=.bool (stl (sns l) most fl gone ((zA bs).t))) hs (.c rfl (.c rfl .n)) call96 (zWi p g _ l most fl gone N ((zA bs).t) _ (hs.mem.keep hp (by simp [zO,blk])) (hs.mem.keep hg (by simp [zO,blk])) (hs.rd0 hu) (hs.mem.keepH hrw (by simp)) ho) rfl ?_
 intro a w hs;refine zBE (us:=[pt g2 0]) hs rfl (.c rfl (.c rfl .n)) rfl call95 (.c (.s .z) .n) (zFN (stl (sns l) most fl gone ((zA bs).t)) 13 (zF7 ((zA bs).e) (zDA (sns l) ((zA bs).t)) 12) g2 _ _ (hs.mem.del (.s .z))) rfl ?_;clear hs w a;rintro _ _ a w ⟨rfl,rfl⟩ hs
 revert a w hs
 refine goL 0 [] [7,6,5,4,0] .n ?_
 intro a w hs
 refine zAS [.p [] [],.p [0] [],.p [1] [],.v [2] (pt g 0),.p [] [],.p [4] [0],.v [5,3] (.tuple #[.agg #[zI ((zAd l ((zA bs).b)).t),zI ((zAd l ((zA bs).b)).tm),(zAd l ((zA bs).b)).v],.bool (zDA (sns l) ((zA bs).b))]),.p [6] [],.p [7] [],.p [7] [],.x [] ⟨[],[],[],λvs11=>vs11 10=pt (zDC (vs11 10)) 0,λvs11=>[blk (zDC (vs11 10)) [zI 0,zI 0,.slice none 0 0] 46],none⟩,.x [8] ⟨[],[10],[10],λvs11=>True,λvs11=>[blk (zDC (vs11 10)) [zI ((zAd l ((zA bs).b)).t),zI ((zAd l ((zA bs).b)).tm),(zAd l ((zA bs).b)).v] 46],none⟩,.p [9] []] [12] hs .n .n (.c (.s .z) .n) (by kernel_rfl) ⟨λ_ _ _ _ hm hs K=>zZ hs rfl (hm.keep hp (by simp [zO,blk])) .z isAgg123 rfl (vk K),rfl,λ_ _ _ _ hm hs K=>zB (v:=.tuple #[.agg #[zI ((zAd l ((zA bs).b)).t),zI ((zAd l ((zA bs).b)).tm),(zAd l ((zA bs).b)).v],.bool (zDA (sns l) ((zA bs).b))]) hs (.c rfl (.c rfl .n)) call64 (zHT g _ l most fl gone ((zA bs).b) _ (hm.rd0 hu) (hm.keep hg (by simp [zO,blk])) hsr (by omega) hiv) rfl (vk K),⟨.n,by kernel_rfl,λ_=>rfl,rfl,rfl⟩,⟨?_,?_,trivial⟩,?_⟩
 ·
  intro a_ w_ R_ rest_ vs11 hm hs ht hx
  have hs0:=hs.bare
  refine zCy (cs:=[zI 0,zI 0,.slice none 0 0]) hs zeroValue46 rfl rfl ?_;clear hs;intro g12 a w hs
  exact wpList_nil ⟨rfl,_,_,hs0,.r,hs,rfl⟩
 ·
  intro a_ w_ R_ rest_ vs11 hm hs ht hx
  have t10:=ht 10 (zD 13 _ (by kernel_rfl))
  have e10:_=some (vs11 10):=t10.val rfl
  rw [show vs11 10=pt (zDC (vs11 10)) 0 from t10.2.1] at e10
  replace hs:=hs.learn e10
  have hs0:=hs.bare
  refine zAb hs rfl rfl .z (.z (.c (.c (.c .n)))) (zJ rfl (zJ rfl (zJ (zEj (hm.keepH hrw (by simp)) (zFT l ((zA bs).b) hsr)).isSl.one zAe))) sizeOf46 rfl ?_;clear hs;intro a w hs
  exact wpList_nil ⟨rfl,.tuple #[],_,hs0,(.c (.c .r)),hs,trivial⟩
 clear hs w a;intro vs11 a w hs hf
 obtain ⟨e10,q10⟩:=hf 10 (by decide)
 replace e10:_=some (vs11 10):=e10.val rfl
 rw [show vs11 10=pt (zDC (vs11 10)) 0 from q10] at e10
 replace hs:=hs.learn e10;clear e10 q10
 generalize zDC (vs11 10)=g13 at hs
 clear hf
 revert a w hs
 refine goE 4 [] [54,51,10,7,6,5,4,0] .n ?_
 intro a w hs;refine zY (b:=!(zDA (sns l) ((zA bs).b))) (λc_14=>?_) (λc_14=>?_)
 ·
  rw [c_14] at hs
  replace c_14:=zFy c_14
  revert a w hs
  refine go 4 [0] [58,51,10,7,6,5,4,0] (.c (.s .z) .n) ⟨rfl,?_⟩
  intro a w hs;replace hs:=hs.reslot (d:=58) (v:=.bool (decide (0≤((zA bs).b)))) (v':=.bool (zJg (sns l) (zA bs).b)) rfl (Option.some.inj (congrArg (λb=>some (Value.bool b)) (by unfold zJg;simp_all)))
  refine zBE (us:=[pt g2 0]) hs rfl (.c rfl (.c rfl .n)) rfl call95 (.c (.s .z) .n) (zFN (zJg (sns l) (zA bs).b) 14 (zF7 (zF7 ((zA bs).e) (zDA (sns l) ((zA bs).t)) 12) (stl (sns l) most fl gone ((zA bs).t)) 13) g2 _ _ (hs.mem.del (.s .z))) rfl ?_;clear hs w a;rintro _ _ a w ⟨rfl,rfl⟩ hs
  revert a w hs
  refine goL 2 [0] [61,10,7,6,5,4,0] (.c .z .n) ⟨rfl,?_⟩
  refine ifG rfl (λc_15=>?_) (λc_15=>?_)
  ·
   refine go 2 [0,1] [64,63,7,5,4,0] (.c (.s (.s (.s (.s (.s .z))))) (.c (.s .z) .n)) ⟨rfl,rfl,?_⟩
   intro a w hs;refine zK hs (.c rfl (.c rfl .n)) call97 .n (zL7 ((zAd l ((zA bs).b)).t) ((zAd l ((zA bs).b)).tm) _ ((zAd l ((zA bs).b)).l) ((zA bs).t) ((zA bs).tm) ((zA bs).b) _ ((zA bs).l) _ (by omega) (by omega) (by omega) (by omega) (by omega) (zEj (hs.mem.keepH hrw (by simp)) (zFT l ((zA bs).b) hsr)) (zP (hs.mem.del (.s (.s (.s .z))))) (zK2 bs)) rfl ?_;clear hs w a;rintro _ _ a w ⟨v16,rfl,rfl⟩ hs
   have hk17:=zPT (at_:=((zAd l ((zA bs).b)).t)) (atm:=((zAd l ((zA bs).b)).tm)) (a:=(zAd l ((zA bs).b)).l) (gt:=((zA bs).t)) (gtm:=((zA bs).tm)) (gb:=((zA bs).b)) (rl:=(zA bs).l)
   revert a w hs
   refine goL 3 [] [67,66,7,5,4,0] .n ?_
   intro a w hs;refine zAb hs rfl rfl (.s (.s (.s (.s (.s .z))))) (.z (.c (.c (.c .n)))) (zJ rfl (zJ rfl (zJ (zP (hs.mem.del .z)).isSl.one zAe))) sizeOf46 rfl ?_
   refine goL 4 [0,1] [70,69,68,5,4] (.c (.s (.s (.s (.s .z)))) (.c .z .n)) ⟨rfl,rfl,?_⟩
   intro a w hs;refine zB (v:=.bool (tml (sns l) ((aS ((zAd l ((zA bs).b)).t) ((zAd l ((zA bs).b)).tm) ((zAd l ((zA bs).b)).l) ((zA bs).t) ((zA bs).tm) ((zA bs).b) ((zA bs).l)).t) ((aS ((zAd l ((zA bs).b)).t) ((zAd l ((zA bs).b)).tm) ((zAd l ((zA bs).b)).l) ((zA bs).t) ((zA bs).tm) ((zA bs).b) ((zA bs).l)).tm))) hs (.c rfl (.c rfl .n)) call98 (zFX p g _ l most fl gone N ((aS ((zAd l ((zA bs).b)).t) ((zAd l ((zA bs).b)).tm) ((zAd l ((zA bs).b)).l) ((zA bs).t) ((zA bs).tm) ((zA bs).b) ((zA bs).l)).t) ((aS ((zAd l ((zA bs).b)).t) ((zAd l ((zA bs).b)).tm) ((zAd l ((zA bs).b)).l) ((zA bs).t) ((zA bs).tm) ((zA bs).b) ((zA bs).l)).tm) _ _ (zP (hs.mem.del (.s (.s .z)))).isSl _ (hs.mem.keep hp (by simp [zO,blk])) (hs.mem.keep hg (by simp [zO,blk])) (hs.rd0 hu) (hs.mem.keepH hrw (by simp)) ho) rfl ?_
   refine goL 1 [] [72,68,5,4] .n ?_
   intro a w hs;refine zBE (us:=[pt g2 0]) hs rfl (.c rfl (.c rfl .n)) rfl call95 (.c .z .n) (zFN (!(tml (sns l) ((aS ((zAd l ((zA bs).b)).t) ((zAd l ((zA bs).b)).tm) ((zAd l ((zA bs).b)).l) ((zA bs).t) ((zA bs).tm) ((zA bs).b) ((zA bs).l)).t) ((aS ((zAd l ((zA bs).b)).t) ((zAd l ((zA bs).b)).tm) ((zAd l ((zA bs).b)).l) ((zA bs).t) ((zA bs).tm) ((zA bs).b) ((zA bs).l)).tm))) 16 (aE ((zAd l ((zA bs).b)).t) ((zAd l ((zA bs).b)).tm) ((zAd l ((zA bs).b)).l) ((zA bs).t) ((zA bs).tm) ((zA bs).b) ((zA bs).l)) g2 _ _ (hs.mem.del .z)) rfl ?_;clear hs w a;rintro _ _ a w ⟨rfl,rfl⟩ hs
   revert a w hs
   refine goL 0 [] [5,4] .n ?_
   intro a w hs
   refine zAS [.y [] (.agg #[zI ((aS ((zAd l ((zA bs).b)).t) ((zAd l ((zA bs).b)).tm) ((zAd l ((zA bs).b)).l) ((zA bs).t) ((zA bs).tm) ((zA bs).b) ((zA bs).l)).t),zI ((aS ((zAd l ((zA bs).b)).t) ((zAd l ((zA bs).b)).tm) ((zAd l ((zA bs).b)).l) ((zA bs).t) ((zA bs).tm) ((zA bs).b) ((zA bs).l)).tm),v16]) [] [] [] λvs18=>[],.l [] [0] [3] [],.x [0] ⟨[blk g1 [zI ((aS ((zAd l ((zA bs).b)).t) ((zAd l ((zA bs).b)).tm) ((zAd l ((zA bs).b)).l) ((zA bs).t) ((zA bs).tm) ((zA bs).b) ((zA bs).l)).t),zI ((aS ((zAd l ((zA bs).b)).t) ((zAd l ((zA bs).b)).tm) ((zAd l ((zA bs).b)).l) ((zA bs).t) ((zA bs).tm) ((zA bs).b) ((zA bs).l)).tm),v16] 46],[],[],λvs18=>True,λvs18=>[blk g1 [zI ((aS ((zAd l ((zA bs).b)).t) ((zAd l ((zA bs).b)).tm) ((zAd l ((zA bs).b)).l) ((zA bs).t) ((zA bs).tm) ((zA bs).b) ((zA bs).l)).t),zI ((aS ((zAd l ((zA bs).b)).t) ((zAd l ((zA bs).b)).tm) ((zAd l ((zA bs).b)).l) ((zA bs).t) ((zA bs).tm) ((zA bs).b) ((zA bs).l)).tm),v16] 46],none⟩,.s [1] [0] [0] []] [] hs (.c .z .n) (.c .z .n) .n (by kernel_rfl) ⟨rfl,rfl,⟨(.c (.s .z) (.c .z .n)),by kernel_rfl,λ_=>rfl,rfl,rfl⟩,⟨?_,?_,trivial⟩,?_⟩
   ·
    intro a_ w_ R_ rest_ vs18 hm hs ht hx
    have hs0:=hs.bare
    refine zRk hs rfl (hm.own (List.mem_append.2 (.inr ((hx 2 (zD 4 _ (by kernel_rfl))).1 _ (List.Mem.head _))))) (.z (.c (.c (.c .n)))) isAgg46 sizeOf46 rfl ?_;clear hs;intro a w hs
    exact wpList_nil ⟨rfl,_,_,hs0,.r,hs,rfl⟩
   ·
    intro a_ w_ R_ rest_ vs18 hm hs ht hx
    have hm0:=hm.mid
    have hs0:=hs.bare
    refine zAb hs rfl rfl .z (.z (.c (.c (.c .n)))) (zJ rfl (zJ rfl (zJ (zP (hm0.del .z)).isSl.one zAe))) sizeOf46 rfl ?_;clear hs;intro a w hs
    exact wpList_nil ⟨rfl,.tuple #[],_,hs0,(.c .r),hs,trivial⟩
   clear hs w a;intro vs18 a w hs hf
   clear hf
   revert a w hs
   refine goE 0 [] [5,4] .n ?_
   intro a w hs;exact zRy hs rfl rfl rfl (.s (.s (.s (.s (.s .z))))) (.z (.c (.c (.c .n)))) isAgg46 sizeOf46 (.s (.s (.s (.s (.s (.s .z)))))) .z isAgg34 (.c (.s (.s (.s (.s (.s (.s .z)))))) (.c (.s (.s (.s (.s (.s .z))))) (.c (.s (.s (.s (.s .z)))) (.c (.s (.s (.s .z))) (.c (.s (.s .z)) (.c (.s .z) .n)))))) ⟨_,_,by rw [zXl (by omega) (by show zF7 _ _ _=0;omega),zKQ hsr,zGU hsr]<;>rfl,λ_=>(zGU hsr).symm,rfl⟩
  refine cl (·.addNil 48 9) ?_
  refine go 3 [0] [70,69,68,5,4] (.c (.s (.s (.s (.s .z)))) .n) ⟨rfl,?_⟩
  intro a w hs;refine zB (v:=.bool (tml (sns l) 0 0)) hs (.c rfl (.c rfl .n)) call98 (zFX p g _ l most fl gone N 0 0 _ _ ⟨_,_,rfl⟩ _ (hs.mem.keep hp (by simp [zO,blk])) (hs.mem.keep hg (by simp [zO,blk])) (hs.rd0 hu) (hs.mem.keepH hrw (by simp)) ho) rfl ?_
  refine goL 1 [] [72,68,5,4] .n ?_
  intro a w hs;refine zBE (us:=[pt g2 0]) hs rfl (.c rfl (.c rfl .n)) rfl call95 (.c (.s (.s .z)) .n) (zFN (!(tml (sns l) 0 0)) 16 (zF7 (zF7 (zF7 ((zA bs).e) (zDA (sns l) ((zA bs).t)) 12) (stl (sns l) most fl gone ((zA bs).t)) 13) (zJg (sns l) (zA bs).b) 14) g2 _ _ (hs.mem.del (.s (.s .z)))) rfl ?_;clear hs w a;rintro _ _ a w ⟨rfl,rfl⟩ hs
  revert a w hs
  refine goL 0 [] [5,4] .n ?_
  intro a w hs
  refine zR [.l [] [0] [2] [],.l [] [0] [3] [],.s [0] [0] [0] [],.s [1] [0] [1] []] [] hs (.c (.s .z) (.c .z .n)) .n (by kernel_rfl) ⟨rfl,rfl,rfl,rfl,⟨rfl,by kernel_rfl,λ_=>rfl,rfl,rfl,trivial⟩,λ_=>rfl,?_⟩
  refine goE 0 [] [5,4] .n ?_
  intro a w hs;exact zRy hs rfl rfl rfl (.s (.s (.s (.s (.s .z))))) (.z (.c (.c (.c .n)))) isAgg46 sizeOf46 (.s (.s (.s (.s (.s (.s .z)))))) .z isAgg34 (.c (.s (.s (.s (.s (.s (.s .z)))))) (.c (.s (.s (.s (.s (.s .z))))) (.c (.s (.s (.s (.s .z)))) (.c (.s (.s (.s .z))) (.c (.s (.s .z)) (.c (.s .z) .n)))))) ⟨default,_,by rw [zJw (by omega) (by show zF7 _ _ _≠0;omega),zHs (by omega)]<;>rfl,λh=>absurd h (by rw [zJw (by omega) (by show zF7 _ _ _≠0;omega)];show ¬ zF7 _ _ _=0;omega),rfl⟩
 rw [c_14] at hs
 replace c_14:=zFv c_14
 revert a w hs
 refine go 4 [] [58,51,10,7,6,5,4,0] .n ?_
 intro a w hs;replace hs:=hs.reslot (d:=58) (v:=.bool (false)) (v':=.bool (zJg (sns l) (zA bs).b)) rfl (Option.some.inj (congrArg (λb=>some (Value.bool b)) (by unfold zJg;simp_all)))
 refine zBE (us:=[pt g2 0]) hs rfl (.c rfl (.c rfl .n)) rfl call95 (.c .z .n) (zFN (zJg (sns l) (zA bs).b) 14 (zF7 (zF7 ((zA bs).e) (zDA (sns l) ((zA bs).t)) 12) (stl (sns l) most fl gone ((zA bs).t)) 13) g2 _ _ (hs.mem.del .z)) rfl ?_;clear hs w a;rintro _ _ a w ⟨rfl,rfl⟩ hs
 revert a w hs
 refine goL 2 [0] [61,10,7,6,5,4,0] (.c .z .n) ⟨rfl,?_⟩
 refine ifG rfl (λc_20=>?_) (λc_20=>?_)
 ·
  refine go 2 [0,1] [64,63,7,5,4,0] (.c (.s (.s (.s (.s (.s .z))))) (.c (.s .z) .n)) ⟨rfl,rfl,?_⟩
  intro a w hs;refine zK hs (.c rfl (.c rfl .n)) call97 .n (zL7 ((zAd l ((zA bs).b)).t) ((zAd l ((zA bs).b)).tm) _ ((zAd l ((zA bs).b)).l) ((zA bs).t) ((zA bs).tm) ((zA bs).b) _ ((zA bs).l) _ (by omega) (by omega) (by omega) (by omega) (by omega) (zEj (hs.mem.keepH hrw (by simp)) (zFT l ((zA bs).b) hsr)) (zP (hs.mem.del (.s (.s (.s .z))))) (zK2 bs)) rfl ?_;clear hs w a;rintro _ _ a w ⟨v21,rfl,rfl⟩ hs
  have hk22:=zPT (at_:=((zAd l ((zA bs).b)).t)) (atm:=((zAd l ((zA bs).b)).tm)) (a:=(zAd l ((zA bs).b)).l) (gt:=((zA bs).t)) (gtm:=((zA bs).tm)) (gb:=((zA bs).b)) (rl:=(zA bs).l)
  revert a w hs
  refine goL 3 [] [67,66,7,5,4,0] .n ?_
  intro a w hs;refine zAb hs rfl rfl (.s (.s (.s (.s (.s .z))))) (.z (.c (.c (.c .n)))) (zJ rfl (zJ rfl (zJ (zP (hs.mem.del .z)).isSl.one zAe))) sizeOf46 rfl ?_
  refine goL 4 [0,1] [70,69,68,5,4] (.c (.s (.s (.s (.s .z)))) (.c .z .n)) ⟨rfl,rfl,?_⟩
  intro a w hs;refine zB (v:=.bool (tml (sns l) ((aS ((zAd l ((zA bs).b)).t) ((zAd l ((zA bs).b)).tm) ((zAd l ((zA bs).b)).l) ((zA bs).t) ((zA bs).tm) ((zA bs).b) ((zA bs).l)).t) ((aS ((zAd l ((zA bs).b)).t) ((zAd l ((zA bs).b)).tm) ((zAd l ((zA bs).b)).l) ((zA bs).t) ((zA bs).tm) ((zA bs).b) ((zA bs).l)).tm))) hs (.c rfl (.c rfl .n)) call98 (zFX p g _ l most fl gone N ((aS ((zAd l ((zA bs).b)).t) ((zAd l ((zA bs).b)).tm) ((zAd l ((zA bs).b)).l) ((zA bs).t) ((zA bs).tm) ((zA bs).b) ((zA bs).l)).t) ((aS ((zAd l ((zA bs).b)).t) ((zAd l ((zA bs).b)).tm) ((zAd l ((zA bs).b)).l) ((zA bs).t) ((zA bs).tm) ((zA bs).b) ((zA bs).l)).tm) _ _ (zP (hs.mem.del (.s (.s .z)))).isSl _ (hs.mem.keep hp (by simp [zO,blk])) (hs.mem.keep hg (by simp [zO,blk])) (hs.rd0 hu) (hs.mem.keepH hrw (by simp)) ho) rfl ?_
  refine goL 1 [] [72,68,5,4] .n ?_
  intro a w hs;refine zBE (us:=[pt g2 0]) hs rfl (.c rfl (.c rfl .n)) rfl call95 (.c .z .n) (zFN (!(tml (sns l) ((aS ((zAd l ((zA bs).b)).t) ((zAd l ((zA bs).b)).tm) ((zAd l ((zA bs).b)).l) ((zA bs).t) ((zA bs).tm) ((zA bs).b) ((zA bs).l)).t) ((aS ((zAd l ((zA bs).b)).t) ((zAd l ((zA bs).b)).tm) ((zAd l ((zA bs).b)).l) ((zA bs).t) ((zA bs).tm) ((zA bs).b) ((zA bs).l)).tm))) 16 (aE ((zAd l ((zA bs).b)).t) ((zAd l ((zA bs).b)).tm) ((zAd l ((zA bs).b)).l) ((zA bs).t) ((zA bs).tm) ((zA bs).b) ((zA bs).l)) g2 _ _ (hs.mem.del .z)) rfl ?_;clear hs w a;rintro _ _ a w ⟨rfl,rfl⟩ hs
  revert a w hs
  refine goL 0 [] [5,4] .n ?_
  intro a w hs
  refine zAS [.y [] (.agg #[zI ((aS ((zAd l ((zA bs).b)).t) ((zAd l ((zA bs).b)).tm) ((zAd l ((zA bs).b)).l) ((zA bs).t) ((zA bs).tm) ((zA bs).b) ((zA bs).l)).t),zI ((aS ((zAd l ((zA bs).b)).t) ((zAd l ((zA bs).b)).tm) ((zAd l ((zA bs).b)).l) ((zA bs).t) ((zA bs).tm) ((zA bs).b) ((zA bs).l)).tm),v21]) [] [] [] λvs23=>[],.l [] [0] [3] [],.x [0] ⟨[blk g1 [zI ((aS ((zAd l ((zA bs).b)).t) ((zAd l ((zA bs).b)).tm) ((zAd l ((zA bs).b)).l) ((zA bs).t) ((zA bs).tm) ((zA bs).b) ((zA bs).l)).t),zI ((aS ((zAd l ((zA bs).b)).t) ((zAd l ((zA bs).b)).tm) ((zAd l ((zA bs).b)).l) ((zA bs).t) ((zA bs).tm) ((zA bs).b) ((zA bs).l)).tm),v21] 46],[],[],λvs23=>True,λvs23=>[blk g1 [zI ((aS ((zAd l ((zA bs).b)).t) ((zAd l ((zA bs).b)).tm) ((zAd l ((zA bs).b)).l) ((zA bs).t) ((zA bs).tm) ((zA bs).b) ((zA bs).l)).t),zI ((aS ((zAd l ((zA bs).b)).t) ((zAd l ((zA bs).b)).tm) ((zAd l ((zA bs).b)).l) ((zA bs).t) ((zA bs).tm) ((zA bs).b) ((zA bs).l)).tm),v21] 46],none⟩,.s [1] [0] [0] []] [] hs (.c .z .n) (.c .z .n) .n (by kernel_rfl) ⟨rfl,rfl,⟨(.c (.s .z) (.c .z .n)),by kernel_rfl,λ_=>rfl,rfl,rfl⟩,⟨?_,?_,trivial⟩,?_⟩
  ·
   intro a_ w_ R_ rest_ vs23 hm hs ht hx
   have hs0:=hs.bare
   refine zRk hs rfl (hm.own (List.mem_append.2 (.inr ((hx 2 (zD 4 _ (by kernel_rfl))).1 _ (List.Mem.head _))))) (.z (.c (.c (.c .n)))) isAgg46 sizeOf46 rfl ?_;clear hs;intro a w hs
   exact wpList_nil ⟨rfl,_,_,hs0,.r,hs,rfl⟩
  ·
   intro a_ w_ R_ rest_ vs23 hm hs ht hx
   have hm0:=hm.mid
   have hs0:=hs.bare
   refine zAb hs rfl rfl .z (.z (.c (.c (.c .n)))) (zJ rfl (zJ rfl (zJ (zP (hm0.del .z)).isSl.one zAe))) sizeOf46 rfl ?_;clear hs;intro a w hs
   exact wpList_nil ⟨rfl,.tuple #[],_,hs0,(.c .r),hs,trivial⟩
  clear hs w a;intro vs23 a w hs hf
  clear hf
  revert a w hs
  refine goE 0 [] [5,4] .n ?_
  intro a w hs;exact zRy hs rfl rfl rfl (.s (.s (.s (.s (.s .z))))) (.z (.c (.c (.c .n)))) isAgg46 sizeOf46 (.s (.s (.s (.s (.s (.s .z)))))) .z isAgg34 (.c (.s (.s (.s (.s (.s (.s .z)))))) (.c (.s (.s (.s (.s (.s .z))))) (.c (.s (.s (.s (.s .z)))) (.c (.s (.s (.s .z))) (.c (.s (.s .z)) (.c (.s .z) .n)))))) ⟨_,_,by rw [zXl (by omega) (by show zF7 _ _ _=0;omega),zKQ hsr,zGU hsr]<;>rfl,λ_=>(zGU hsr).symm,rfl⟩
 refine cl (·.addNil 48 9) ?_
 refine go 3 [0] [70,69,68,5,4] (.c (.s (.s (.s (.s .z)))) .n) ⟨rfl,?_⟩
 intro a w hs;refine zB (v:=.bool (tml (sns l) 0 0)) hs (.c rfl (.c rfl .n)) call98 (zFX p g _ l most fl gone N 0 0 _ _ ⟨_,_,rfl⟩ _ (hs.mem.keep hp (by simp [zO,blk])) (hs.mem.keep hg (by simp [zO,blk])) (hs.rd0 hu) (hs.mem.keepH hrw (by simp)) ho) rfl ?_
 refine goL 1 [] [72,68,5,4] .n ?_
 intro a w hs;refine zBE (us:=[pt g2 0]) hs rfl (.c rfl (.c rfl .n)) rfl call95 (.c (.s (.s .z)) .n) (zFN (!(tml (sns l) 0 0)) 16 (zF7 (zF7 (zF7 ((zA bs).e) (zDA (sns l) ((zA bs).t)) 12) (stl (sns l) most fl gone ((zA bs).t)) 13) (zJg (sns l) (zA bs).b) 14) g2 _ _ (hs.mem.del (.s (.s .z)))) rfl ?_;clear hs w a;rintro _ _ a w ⟨rfl,rfl⟩ hs
 revert a w hs
 refine goL 0 [] [5,4] .n ?_
 intro a w hs
 refine zR [.l [] [0] [2] [],.l [] [0] [3] [],.s [0] [0] [0] [],.s [1] [0] [1] []] [] hs (.c (.s .z) (.c .z .n)) .n (by kernel_rfl) ⟨rfl,rfl,rfl,rfl,⟨rfl,by kernel_rfl,λ_=>rfl,rfl,rfl,trivial⟩,λ_=>rfl,?_⟩
 refine goE 0 [] [5,4] .n ?_
 intro a w hs;exact zRy hs rfl rfl rfl (.s (.s (.s (.s (.s .z))))) (.z (.c (.c (.c .n)))) isAgg46 sizeOf46 (.s (.s (.s (.s (.s (.s .z)))))) .z isAgg34 (.c (.s (.s (.s (.s (.s (.s .z)))))) (.c (.s (.s (.s (.s (.s .z))))) (.c (.s (.s (.s (.s .z)))) (.c (.s (.s (.s .z))) (.c (.s (.s .z)) (.c (.s .z) .n)))))) ⟨default,_,by rw [zJw (by omega) (by show zF7 _ _ _≠0;omega),zHs (by omega)]<;>rfl,λh=>absurd h (by rw [zJw (by omega) (by show zF7 _ _ _≠0;omega)];show ¬ zF7 _ _ _=0;omega),rfl⟩
theorem zTP (p g:Nat) (u:Value) (l:List RI) (most:Nat) (fl:Int) (gone:Bool) (N:Nat→Nat) (v:Value) (m:Nat) (bs:List zN) (w0:World) (hM:∀ h∈[blk p [pt g 0,nI most,nI (N 0),nI (N 1),nI (N 2),nI (N 3),nI (N 4),nI (N 5),nI (N 6),nI (N 7),nI (N 8),nI (N 9),nI (N 10),nI (N 11),nI (N 12),nI (N 13),nI (N 14),nI (N 15),nI (N 16),nI (N 17)] 126,blk g [u,nI most,zI fl,.bool (gone)] 188,row u 191 4 l.length (l.flatMap riV),rws 48 l],h.p w0) (hnd:(zO [blk p [pt g 0,nI most,nI (N 0),nI (N 1),nI (N 2),nI (N 3),nI (N 4),nI (N 5),nI (N 6),nI (N 7),nI (N 8),nI (N 9),nI (N 10),nI (N 11),nI (N 12),nI (N 13),nI (N 14),nI (N 15),nI (N 16),nI (N 17)] 126,blk g [u,nI most,zI fl,.bool (gone)] 188,row u 191 4 l.length (l.flatMap riV),rws 48 l]).Nodup) (ho:Oks (sns l) most) (hN:∀ i,N i≤1000000) (hb:Rd w0 (zO [blk p [pt g 0,nI most,nI (N 0),nI (N 1),nI (N 2),nI (N 3),nI (N 4),nI (N 5),nI (N 6),nI (N 7),nI (N 8),nI (N 9),nI (N 10),nI (N 11),nI (N 12),nI (N 13),nI (N 14),nI (N 15),nI (N 16),nI (N 17)] 126,blk g [u,nI most,zI fl,.bool (gone)] 188,row u 191 4 l.length (l.flatMap riV),rws 48 l]) v 1 m (zC bs)):Calls Tryz.prog 38 #[pt p 0,v] w0 (Ret w0 (zO [blk p [pt g 0,nI most,nI (N 0),nI (N 1),nI (N 2),nI (N 3),nI (N 4),nI (N 5),nI (N 6),nI (N 7),nI (N 8),nI (N 9),nI (N 10),nI (N 11),nI (N 12),nI (N 13),nI (N 14),nI (N 15),nI (N 16),nI (N 17)] 126,blk g [u,nI most,zI fl,.bool (gone)] 188,row u 191 4 l.length (l.flatMap riV),rws 48 l]) λz Nn=>z = .tuple #[zI (zJo (sns l) most fl gone (zA bs)),nI (zBO (sns l) most fl gone (zA bs))]∧∃ (u':Value) (l':List RI),(zBr most ⟨sns l,fl,gone,N⟩ (zA bs)).l=sns l'∧Nn=[blk p [pt g 0,nI most,nI (((zBr most ⟨sns l,fl,gone,N⟩ (zA bs)).n) 0),nI (((zBr most ⟨sns l,fl,gone,N⟩ (zA bs)).n) 1),nI (((zBr most ⟨sns l,fl,gone,N⟩ (zA bs)).n) 2),nI (((zBr most ⟨sns l,fl,gone,N⟩ (zA bs)).n) 3),nI (((zBr most ⟨sns l,fl,gone,N⟩ (zA bs)).n) 4),nI (((zBr most ⟨sns l,fl,gone,N⟩ (zA bs)).n) 5),nI (((zBr most ⟨sns l,fl,gone,N⟩ (zA bs)).n) 6),nI (((zBr most ⟨sns l,fl,gone,N⟩ (zA bs)).n) 7),nI (((zBr most ⟨sns l,fl,gone,N⟩ (zA bs)).n) 8),nI (((zBr most ⟨sns l,fl,gone,N⟩ (zA bs)).n) 9),nI (((zBr most ⟨sns l,fl,gone,N⟩ (zA bs)).n) 10),nI (((zBr most ⟨sns l,fl,gone,N⟩ (zA bs)).n) 11),nI (((zBr most ⟨sns l,fl,gone,N⟩ (zA bs)).n) 12),nI (((zBr most ⟨sns l,fl,gone,N⟩ (zA bs)).n) 13),nI (((zBr most ⟨sns l,fl,gone,N⟩ (zA bs)).n) 14),nI (((zBr most ⟨sns l,fl,gone,N⟩ (zA bs)).n) 15),nI (((zBr most ⟨sns l,fl,gone,N⟩ (zA bs)).n) 16),nI (((zBr most ⟨sns l,fl,gone,N⟩ (zA bs)).n) 17)] 126,blk g [u',nI most,zI ((zBr most ⟨sns l,fl,gone,N⟩ (zA bs)).floor),.bool ((zBr most ⟨sns l,fl,gone,N⟩ (zA bs)).gone)] 188,row u' 191 4 l'.length (l'.flatMap riV),rws 48 l']):=by
 have hbl:bs.length=m:=by have:=hb.len;simpa [zC] using this
 have hbe:m≤maxLen:=hb.le
 simp only [maxLen] at hbe
 have hrw:(rws 48 l).p w0:=hM _ (by simp)
 have hiv:=zEc hrw
 have hsr:=ho.srt
 have hll:l.length≤most:=by have:=ho.le;rw [zAO] at this;omega
 have hm64:=ho.m64
 have hm1:=ho.m1
 have he17:=zaV (l:=sns l) (most:=most) (fl:=fl) (gone:=gone) (bs:=bs)
 have hN0:=hN 0
 have hN1:=hN 1
 have hN2:=hN 2
 have hN3:=hN 3
 have hN4:=hN 4
 have hN5:=hN 5
 have hN6:=hN 6
 have hN7:=hN 7
 have hN8:=hN 8
 have hN9:=hN 9
 have hN10:=hN 10
 have hN11:=hN 11
 have hN12:=hN 12
 have hN13:=hN 13
 have hN14:=hN 14
 have hN15:=hN 15
 have hN16:=hN 16
 have hN17:=hN 17
 refine zG (F0:=[(0,pt p 0),(1,v)]) func38 rfl rfl rfl (.c (.c .n)) (Mem.start hM rfl hnd) ?_
 refine go 7 [] [12,11,0] .n ?_
 intro a w hs;refine zK hs (.c rfl (.c rfl .n)) call61 .n (zYV p g _ l most fl gone N _ _ bs _ (hs.mem.del .z) (hs.mem.del (.s .z)) (zP (hs.mem.del (.s (.s .z)))) (hs.mem.del (.s (.s (.s .z)))) ho (hs.rd0 hb)) rfl ?_;clear hs w a;rintro _ _ a w ⟨X1,v2,rfl,hX3,rfl⟩ hs
 revert a w hs
 refine goL 4 [] [6,15,14,0] .n (λg4=>?_)
 intro a w hs;refine zAb hs rfl rfl .z (.z (.c (.c (.c .n)))) (zJ rfl (zJ rfl (zJ (zP (hs.mem.del (.s .z))).isSl.one zAe))) sizeOf46 rfl ?_
 refine goL 3 [] [17,7,6,0] .n ?_
 refine ifG rfl (λc_5=>?_) (λc_5=>?_)
 ·
  have h0:(zBO (sns l) most fl gone (zA bs))=0:=by omega
  have hXe:=hX3 h0;subst hXe
  have hlp:=zYv h0;have hA0:=(zHl h0).2.2.2.2.1;have hAr:=zW5 hA0
  refine cl (·.sub (F':=[(6,pt g4 0),(0,pt p 0)]) (.c rfl (.c rfl .n))) ?_
  intro a w hs
  refine zFF (Γ:=Value) (M0:=[blk g4 [zI ((zAP (sns l) (zA bs)).t),zI ((zAP (sns l) (zA bs)).tm),v2] 46,row v2 48 9 ((zAP (sns l) (zA bs)).l.length) ((zAP (sns l) (zA bs)).l.flatMap zBJ),blk p [pt g 0,nI most,nI (N 0),nI (N 1),nI (N 2),nI (N 3),nI (N 4),nI (N 5),nI (N 6),nI (N 7),nI (N 8),nI (N 9),nI (N 10),nI (N 11),nI (N 12),nI (N 13),nI (N 14),nI (N 15),nI (N 16),nI (N 17)] 126,rws 48 l]) (Ds:=λgs=>[Pv 0 (pt p 0),Pv 1 (pt p 0),Pv 2 (pt p 0),Pv 3 (pt g 0),Pv 4 (pt g4 0),Pv 5 (zI ((zAP (sns l) (zA bs)).t)),Pv 6 (.agg #[zI ((zAP (sns l) (zA bs)).t),zI ((zAP (sns l) (zA bs)).tm),v2]),⟨[],[],[],λvs6=>vs6 7 = .agg #[zI ((zAP (sns l) (zA bs)).t),zI ((zAP (sns l) (zA bs)).tm),(zHB 2 (vs6 7))],λvs6=>[row (zHB 2 (vs6 7)) 48 9 (((zAP (sns l) (zA bs)).l).length) (((zAP (sns l) (zA bs)).l).flatMap zBJ)],none⟩,⟨[row u 191 4 l.length (l.flatMap riV),blk g [u,nI most,zI fl,.bool (gone)] 188],[],[7],λvs6=>vs6 8 = .tuple #[zI (zIF l most (⟨(zAP (sns l) (zA bs)).t,(zAP (sns l) (zA bs)).tm,((zAP (sns l) (zA bs)).l),(zHB 2 (vs6 7))⟩ : RI)),.bool (zID l most (⟨(zAP (sns l) (zA bs)).t,(zAP (sns l) (zA bs)).tm,((zAP (sns l) (zA bs)).l),(zHB 2 (vs6 7))⟩ : RI)),zI 0],λvs6=>[blk g [(gs 8),nI most,zI (zJX l most fl (⟨(zAP (sns l) (zA bs)).t,(zAP (sns l) (zA bs)).tm,((zAP (sns l) (zA bs)).l),(zHB 2 (vs6 7))⟩ : RI)),.bool (zJY l most gone (⟨(zAP (sns l) (zA bs)).t,(zAP (sns l) (zA bs)).tm,((zAP (sns l) (zA bs)).l),(zHB 2 (vs6 7))⟩ : RI))] 188,row (gs 8) 191 4 ((zHA l most (⟨(zAP (sns l) (zA bs)).t,(zAP (sns l) (zA bs)).tm,((zAP (sns l) (zA bs)).l),(zHB 2 (vs6 7))⟩ : RI)).length) ((zHA l most (⟨(zAP (sns l) (zA bs)).t,(zAP (sns l) (zA bs)).tm,((zAP (sns l) (zA bs)).l),(zHB 2 (vs6 7))⟩ : RI)).flatMap riV)],none⟩,⟨[],[],[7],λvs6=>vs6 9 = .tuple #[zI (zIF l most (⟨(zAP (sns l) (zA bs)).t,(zAP (sns l) (zA bs)).tm,((zAP (sns l) (zA bs)).l),(zHB 2 (vs6 7))⟩ : RI)),.bool (zID l most (⟨(zAP (sns l) (zA bs)).t,(zAP (sns l) (zA bs)).tm,((zAP (sns l) (zA bs)).l),(zHB 2 (vs6 7))⟩ : RI)),zI 0],λvs6=>[],none⟩,⟨[],[],[7],λvs6=>vs6 10=zI (zIF l most (⟨(zAP (sns l) (zA bs)).t,(zAP (sns l) (zA bs)).tm,((zAP (sns l) (zA bs)).l),(zHB 2 (vs6 7))⟩ : RI)),λvs6=>[],none⟩,⟨[],[],[7],λvs6=>vs6 11 = .bool (zID l most (⟨(zAP (sns l) (zA bs)).t,(zAP (sns l) (zA bs)).tm,((zAP (sns l) (zA bs)).l),(zHB 2 (vs6 7))⟩ : RI)),λvs6=>[],none⟩,Pv 12 (zI 0),Pv 13 (zI 0)]) [[],[],[],[],[],[],[],[],[8],[],[],[],[],[]] (.slice none 0 0:Value) (by kernel_rfl) hs rfl (.c (.s (.s (.s (.s .z)))) (.c (.s (.s (.s .z))) .n)) (by kernel_rfl) (λ_=>by kernel_rfl) (λ_ _=>rfl) (λus_ us'_=>(.c (λ_=>rfl) (.c (λ_=>rfl) (.c (λ_=>rfl) (.c (λ_=>rfl) (.c (λ_=>rfl) (.c (λ_=>rfl) (.c (λ_=>rfl) (.c (λ_=>rfl) (.c (λh=>by have e8:=h 8 (by simp);simp only [e8]) (.c (λ_=>rfl) (.c (λ_=>rfl) (.c (λ_=>rfl) (.c (λ_=>rfl) (.c (λ_=>rfl) .n))))))))))))))) (by kernel_rfl) rfl (by kernel_rfl) (λgs=>?_) ?_
  ·
   refine (.c ?_ (.c ?_ (.c ?_ (.c ?_ (.c ?_ (.c ?_ (.c ?_ (.c ?_ (.g ?_ (.c ?_ (.c ?_ (.c ?_ (.c ?_ (.c ?_ .n))))))))))))))
   · exact zAN (m:=14) .n (λhm0 hm hx=>.n) (by kernel_rfl) (by kernel_rfl) rfl
   · exact zAN (m:=14) (.c (k:=0) (by kernel_rfl) rfl rfl .n) (λhm0 hm hx=>.n) (by kernel_rfl) (by kernel_rfl) rfl
   · exact zAN (m:=14) (.c (k:=1) (by kernel_rfl) rfl rfl .n) (λhm0 hm hx=>.n) (by kernel_rfl) (by kernel_rfl) rfl
   · exact zAN (m:=14) (.c (k:=2) (by kernel_rfl) rfl rfl .n) (λhm0 hm hx=>(.c (hm0.del (.s (.s .z))))) (by kernel_rfl) (by kernel_rfl) rfl
   · exact zAN (m:=14) .n (λhm0 hm hx=>.n) (by kernel_rfl) (by kernel_rfl) rfl
   · exact zAN (m:=14) (.c (k:=4) (by kernel_rfl) rfl rfl .n) (λhm0 hm hx=>(.c (hm0.del .z))) (by kernel_rfl) (by kernel_rfl) rfl
   · exact zAN (m:=14) .n (λhm0 hm hx=>(.c (hm0.del .z))) (by kernel_rfl) (by kernel_rfl) rfl
   ·
    intro a_ w_ R_ rest_ vs6 hm hs ht hx
    have hm0:=hm.mid
    replace hs:=hs.lrn (ht 6 (zD 14 _ (by kernel_rfl))) rfl rfl
    have hs0:=hs.bare
    refine zK hs (.c rfl .n) call63 .n (zRB ((zAP (sns l) (zA bs)).t) ((zAP (sns l) (zA bs)).tm) _ ((zAP (sns l) (zA bs)).l) _ (zP (hm0.del (.s .z))) (by omega)) rfl ?_;clear hs;rintro _ _ a w ⟨v7,rfl,rfl⟩ hs
    exact wpList_nil ⟨rfl,_,_,hs0,(.c .r),hs,rfl⟩
   ·
    intro a_ w_ R_ rest_ vs6 hm hs ht hx
    replace hs:St _ _ _ (zO [row u 191 4 l.length (l.flatMap riV),blk g [u,nI most,zI fl,.bool (gone)] 188]) [row u 191 4 l.length (l.flatMap riV),blk g [u,nI most,zI fl,.bool (gone)] 188] _ _:=hs
    have hm0:=hm.mid
    replace hs:=hs.lrn (ht 3 (zD 14 _ (by kernel_rfl))) rfl rfl
    replace hs:=hs.lrn (ht 5 (zD 14 _ (by kernel_rfl))) rfl rfl
    have t7:=ht 7 (zD 14 _ (by kernel_rfl))
    have e7:_=some (vs6 7):=t7.val rfl
    rw [show vs6 7 = .agg #[zI ((zAP (sns l) (zA bs)).t),zI ((zAP (sns l) (zA bs)).tm),(zHB 2 (vs6 7))] from t7.2.1] at e7
    replace hs:=hs.learn e7
    have hs0:=hs.bare
    refine zK hs (.c rfl (.c rfl (.c rfl .n))) call62 (.c .z (.c .z .n)) (zP5 g u l most fl gone (⟨(zAP (sns l) (zA bs)).t,(zAP (sns l) (zA bs)).tm,((zAP (sns l) (zA bs)).l),(zHB 2 (vs6 7))⟩ : RI) _ (hs.mem.del .z) (hs.mem.del (.s .z)) (hs.mem.ndX (.c .z (.c .z .n))) hsr hll hm64 hm1 hiv (zP (hm.own (List.mem_append.2 (.inr ((ht 7 (zD 14 _ (by kernel_rfl))).2.2 (zJS (n:=14) (by kernel_rfl)) _ (List.Mem.head _)))))).isSl hlp.1 hlp.2.1 hlp.2.2) rfl ?_;clear hs;rintro _ _ a w ⟨v8,rfl,rfl⟩ hs
    exact wpList_nil ⟨rfl,(v8),_,_,hs0,(.c (.c (.c .r))),hs,rfl⟩
   ·
    intro a_ w_ R_ rest_ vs6 hm hs ht hx
    have hm0:=hm.mid
    have t8:=ht 8 (zD 14 _ (by kernel_rfl))
    have e8:_=some (vs6 8):=t8.val rfl
    rw [show vs6 8 = .tuple #[zI (zIF l most (⟨(zAP (sns l) (zA bs)).t,(zAP (sns l) (zA bs)).tm,((zAP (sns l) (zA bs)).l),(zHB 2 (vs6 7))⟩ : RI)),.bool (zID l most (⟨(zAP (sns l) (zA bs)).t,(zAP (sns l) (zA bs)).tm,((zAP (sns l) (zA bs)).l),(zHB 2 (vs6 7))⟩ : RI)),zI 0] from t8.2.1] at e8
    replace hs:=hs.learn e8
    have hs0:=hs.bare
    refine zGe hs rfl rfl ?_;clear hs;intro a w hs
    exact wpList_nil ⟨rfl,_,_,hs0,(.c .r),hs,rfl⟩
   ·
    intro a_ w_ R_ rest_ vs6 hm hs ht hx
    have hm0:=hm.mid
    have t9:=ht 9 (zD 14 _ (by kernel_rfl))
    have e9:_=some (vs6 9):=t9.val rfl
    rw [show vs6 9 = .tuple #[zI (zIF l most (⟨(zAP (sns l) (zA bs)).t,(zAP (sns l) (zA bs)).tm,((zAP (sns l) (zA bs)).l),(zHB 2 (vs6 7))⟩ : RI)),.bool (zID l most (⟨(zAP (sns l) (zA bs)).t,(zAP (sns l) (zA bs)).tm,((zAP (sns l) (zA bs)).l),(zHB 2 (vs6 7))⟩ : RI)),zI 0] from t9.2.1] at e9
    replace hs:=hs.learn e9
    have hs0:=hs.bare
    refine zH9 hs rfl .z rfl ?_;clear hs;intro a w hs
    exact wpList_nil ⟨rfl,_,_,hs0,(.c .r),hs,rfl⟩
   ·
    intro a_ w_ R_ rest_ vs6 hm hs ht hx
    have hm0:=hm.mid
    have t9:=ht 9 (zD 14 _ (by kernel_rfl))
    have e9:_=some (vs6 9):=t9.val rfl
    rw [show vs6 9 = .tuple #[zI (zIF l most (⟨(zAP (sns l) (zA bs)).t,(zAP (sns l) (zA bs)).tm,((zAP (sns l) (zA bs)).l),(zHB 2 (vs6 7))⟩ : RI)),.bool (zID l most (⟨(zAP (sns l) (zA bs)).t,(zAP (sns l) (zA bs)).tm,((zAP (sns l) (zA bs)).l),(zHB 2 (vs6 7))⟩ : RI)),zI 0] from t9.2.1] at e9
    replace hs:=hs.learn e9
    have hs0:=hs.bare
    refine zH9 hs rfl (.s .z) rfl ?_;clear hs;intro a w hs
    exact wpList_nil ⟨rfl,_,_,hs0,(.c .r),hs,rfl⟩
   ·
    intro a_ w_ R_ rest_ vs6 hm hs ht hx
    have hm0:=hm.mid
    have t9:=ht 9 (zD 14 _ (by kernel_rfl))
    have e9:_=some (vs6 9):=t9.val rfl
    rw [show vs6 9 = .tuple #[zI (zIF l most (⟨(zAP (sns l) (zA bs)).t,(zAP (sns l) (zA bs)).tm,((zAP (sns l) (zA bs)).l),(zHB 2 (vs6 7))⟩ : RI)),.bool (zID l most (⟨(zAP (sns l) (zA bs)).t,(zAP (sns l) (zA bs)).tm,((zAP (sns l) (zA bs)).l),(zHB 2 (vs6 7))⟩ : RI)),zI 0] from t9.2.1] at e9
    replace hs:=hs.learn e9
    have hs0:=hs.bare
    refine zH9 hs rfl (.s (.s .z)) rfl ?_;clear hs;intro a w hs
    exact wpList_nil ⟨rfl,_,_,hs0,(.c .r),hs,rfl⟩
   exact zAN (m:=14) (.c (k:=12) (by kernel_rfl) rfl rfl .n) (λhm0 hm hx=>.n) (by kernel_rfl) (by kernel_rfl) rfl
  clear hs w a;intro a w vs6 gs hs hf
  replace hs:St _ _ _ _ [blk g4 [zI ((zAP (sns l) (zA bs)).t),zI ((zAP (sns l) (zA bs)).tm),v2] 46,row v2 48 9 ((zAP (sns l) (zA bs)).l.length) ((zAP (sns l) (zA bs)).l.flatMap zBJ),blk p [pt g 0,nI most,nI (N 0),nI (N 1),nI (N 2),nI (N 3),nI (N 4),nI (N 5),nI (N 6),nI (N 7),nI (N 8),nI (N 9),nI (N 10),nI (N 11),nI (N 12),nI (N 13),nI (N 14),nI (N 15),nI (N 16),nI (N 17)] 126,rws 48 l,row (zHB 2 (vs6 7)) 48 9 (((zAP (sns l) (zA bs)).l).length) (((zAP (sns l) (zA bs)).l).flatMap zBJ),blk g [(gs 8),nI most,zI (zJX l most fl (⟨(zAP (sns l) (zA bs)).t,(zAP (sns l) (zA bs)).tm,((zAP (sns l) (zA bs)).l),(zHB 2 (vs6 7))⟩ : RI)),.bool (zJY l most gone (⟨(zAP (sns l) (zA bs)).t,(zAP (sns l) (zA bs)).tm,((zAP (sns l) (zA bs)).l),(zHB 2 (vs6 7))⟩ : RI))] 188,row (gs 8) 191 4 ((zHA l most (⟨(zAP (sns l) (zA bs)).t,(zAP (sns l) (zA bs)).tm,((zAP (sns l) (zA bs)).l),(zHB 2 (vs6 7))⟩ : RI)).length) ((zHA l most (⟨(zAP (sns l) (zA bs)).t,(zAP (sns l) (zA bs)).tm,((zAP (sns l) (zA bs)).l),(zHB 2 (vs6 7))⟩ : RI)).flatMap riV)] _ _:=hs
  obtain ⟨e13,q13⟩:=hf 13 (by decide)
  replace e13:_=some (vs6 13):=e13.val rfl
  rw [show vs6 13=zI 0 from q13] at e13
  replace hs:=hs.learn e13;clear e13 q13
  generalize (gs 8)=v9 at hs
  generalize zHB 2 (vs6 7)=v10 at hs
  clear hf
  revert a w hs
  refine goE 0 [] [7,6,0] .n ?_
  intro a w hs
  refine zR [.p [] [],.p [] [],.p [0] [],.p [2] [],.p [3,1] [],.l [4] [0] [10] [],.p [5] [],.p [0] [],.p [7] [],.p [8,1] [],.s [9,6] [0] [0] []] [] hs (.c (.s (.s .z)) .n) .n (by kernel_rfl) ⟨rfl,(by have:=hN (zBO (sns l) most fl gone (zA bs));omega),rfl,⟨rfl,by kernel_rfl,λ_=>rfl,rfl,rfl,trivial⟩,λ_=>rfl,?_⟩
  refine zdQ 6 2 [] [42,7,6] .n ?_
  refine go 5 [0] [5,4] (.c .z .n) ⟨rfl,?_⟩
  refine cl (·.rwsLay (most:=most) (x:=(⟨(zAP (sns l) (zA bs)).t,(zAP (sns l) (zA bs)).tm,((zAP (sns l) (zA bs)).l),v10⟩ : RI)) (.c (.s (.s .z)) (.c (.s (.s .z)) .n))) ?_
  refine cl (·.drop (.c (.s (.s .z)) (.c (.s .z) .n))) ?_
  refine cl (·.reorder (.c (.s (.s (.s .z))) (.c (.s .z) (.c (.s .z) (.c .z .n))))) ?_
  refine cl (·.reblk .z (cs':=[pt g 0,nI most,nI (zBH N 0 0),nI (zBH N 0 1),nI (zBH N 0 2),nI (zBH N 0 3),nI (zBH N 0 4),nI (zBH N 0 5),nI (zBH N 0 6),nI (zBH N 0 7),nI (zBH N 0 8),nI (zBH N 0 9),nI (zBH N 0 10),nI (zBH N 0 11),nI (zBH N 0 12),nI (zBH N 0 13),nI (zBH N 0 14),nI (zBH N 0 15),nI (zBH N 0 16),nI (zBH N 0 17)]) rfl) ?_
  obtain ⟨hT_,hS_⟩:=zW0 (N:=N) v10 h0
  intro a w hs;exact zBR hs rfl rfl rfl ⟨by rw [hT_,h0];rfl,_,zHA l most (⟨(zAP (sns l) (zA bs)).t,(zAP (sns l) (zA bs)).tm,((zAP (sns l) (zA bs)).l),v10⟩ : RI),by rw [hS_],by rw [hS_]⟩
 refine go 0 [] [7,6,0] .n ?_
 intro a w hs
 refine zAS [.p [] [],.p [] [],.p [0] [],.p [2] [],.v [3,1] (pt p (2+(zBO (sns l) most fl gone (zA bs)))),.y [4] (nI (N (zBO (sns l) most fl gone (zA bs)))) [] [] [] λvs12=>[],.p [5] [],.p [0] [],.p [7] [],.v [8,1] (pt p (2+(zBO (sns l) most fl gone (zA bs)))),.x [9,6] ⟨[blk p [pt g 0,nI most,nI (N 0),nI (N 1),nI (N 2),nI (N 3),nI (N 4),nI (N 5),nI (N 6),nI (N 7),nI (N 8),nI (N 9),nI (N 10),nI (N 11),nI (N 12),nI (N 13),nI (N 14),nI (N 15),nI (N 16),nI (N 17)] 126],[],[],λvs12=>True,λvs12=>[blk p [pt g 0,nI most,nI (zBH N (zBO (sns l) most fl gone (zA bs)) 0),nI (zBH N (zBO (sns l) most fl gone (zA bs)) 1),nI (zBH N (zBO (sns l) most fl gone (zA bs)) 2),nI (zBH N (zBO (sns l) most fl gone (zA bs)) 3),nI (zBH N (zBO (sns l) most fl gone (zA bs)) 4),nI (zBH N (zBO (sns l) most fl gone (zA bs)) 5),nI (zBH N (zBO (sns l) most fl gone (zA bs)) 6),nI (zBH N (zBO (sns l) most fl gone (zA bs)) 7),nI (zBH N (zBO (sns l) most fl gone (zA bs)) 8),nI (zBH N (zBO (sns l) most fl gone (zA bs)) 9),nI (zBH N (zBO (sns l) most fl gone (zA bs)) 10),nI (zBH N (zBO (sns l) most fl gone (zA bs)) 11),nI (zBH N (zBO (sns l) most fl gone (zA bs)) 12),nI (zBH N (zBO (sns l) most fl gone (zA bs)) 13),nI (zBH N (zBO (sns l) most fl gone (zA bs)) 14),nI (zBH N (zBO (sns l) most fl gone (zA bs)) 15),nI (zBH N (zBO (sns l) most fl gone (zA bs)) 16),nI (zBH N (zBO (sns l) most fl gone (zA bs)) 17)] 126],none⟩] [] hs .n (.c (.s (.s .z)) .n) .n (by kernel_rfl) ⟨λ_ _ _ _ hm hs K=>zQ4 (j:=zBO (sns l) most fl gone (zA bs)) hs rfl rfl underlying124 (by omega) sizeOf3 rfl (vk K),(by have:=hN (zBO (sns l) most fl gone (zA bs));omega),λ_ _ _ _ hm hs K=>zQ4 (j:=zBO (sns l) most fl gone (zA bs)) hs rfl rfl underlying124 (by omega) sizeOf3 rfl (vk K),⟨(.c .z .n),by kernel_rfl,λ_=>rfl,rfl,rfl⟩,⟨?_,?_,trivial⟩,?_⟩
 ·
  intro a_ w_ R_ rest_ vs12 hm hs ht hx
  have hs0:=hs.bare
  refine zKi (v:=nI (N (zBO (sns l) most fl gone (zA bs)))) hs rfl (hm.own (List.mem_append.2 (.inr ((hx 10 (zD 11 _ (by kernel_rfl))).1 _ (List.Mem.head _))))) (zX5 (by omega)) isAgg3 rfl ?_;clear hs;intro a w hs
  exact wpList_nil ⟨rfl,_,_,hs0,(.c .r),hs,rfl⟩
 ·
  intro a_ w_ R_ rest_ vs12 hm hs ht hx
  have hs0:=hs.bare
  refine zTl (cs':=[pt g 0,nI most,nI (zBH N (zBO (sns l) most fl gone (zA bs)) 0),nI (zBH N (zBO (sns l) most fl gone (zA bs)) 1),nI (zBH N (zBO (sns l) most fl gone (zA bs)) 2),nI (zBH N (zBO (sns l) most fl gone (zA bs)) 3),nI (zBH N (zBO (sns l) most fl gone (zA bs)) 4),nI (zBH N (zBO (sns l) most fl gone (zA bs)) 5),nI (zBH N (zBO (sns l) most fl gone (zA bs)) 6),nI (zBH N (zBO (sns l) most fl gone (zA bs)) 7),nI (zBH N (zBO (sns l) most fl gone (zA bs)) 8),nI (zBH N (zBO (sns l) most fl gone (zA bs)) 9),nI (zBH N (zBO (sns l) most fl gone (zA bs)) 10),nI (zBH N (zBO (sns l) most fl gone (zA bs)) 11),nI (zBH N (zBO (sns l) most fl gone (zA bs)) 12),nI (zBH N (zBO (sns l) most fl gone (zA bs)) 13),nI (zBH N (zBO (sns l) most fl gone (zA bs)) 14),nI (zBH N (zBO (sns l) most fl gone (zA bs)) 15),nI (zBH N (zBO (sns l) most fl gone (zA bs)) 16),nI (zBH N (zBO (sns l) most fl gone (zA bs)) 17)]) hs rfl rfl .z (by show 2+zBO (sns l) most fl gone (zA bs)<20;omega) (zX6 (by omega)) rfl sizeOf3 ?_;clear hs;intro a w hs
  exact wpList_nil ⟨rfl,.tuple #[],_,hs0,(.c (.c .r)),hs,trivial⟩
 clear hs w a;intro vs12 a w hs hf
 clear hf
 revert a w hs
 refine zdQ 6 2 [] [42,7,6] .n ?_
 have hb_:(!((((zBO (sns l) most fl gone (zA bs):Nat):Int):Int)==0))=true:=by rw [Bool.not_eq_true',beq_eq_false_iff_ne];omega
 intro a w hs;rw [hb_] at hs;clear hb_
 revert a w hs
 refine go 4 [] [5,4] .n ?_
 refine cl (·.drop (.c (.s .z) (.c .z .n))) ?_
 refine cl (·.reorder (.c (.s (.s (.s .z))) (.c .z (.c .z (.c .z .n))))) ?_
 obtain ⟨hT_,hS_⟩:=zZ0 (N:=N) (rfl:(zBO (sns l) most fl gone (zA bs))=_) (by omega)
 intro a w hs;exact zBR hs rfl rfl rfl ⟨by rw [hT_],_,l,by rw [hS_],by rw [hS_]⟩
def za4 (p g:Nat) (u:Value) (l:List RI) (most:Nat) (fl:Int) (gone:Bool) (N:Nat→Nat):List HA:=[blk p [pt g 0,nI most,nI (N 0),nI (N 1),nI (N 2),nI (N 3),nI (N 4),nI (N 5),nI (N 6),nI (N 7),nI (N 8),nI (N 9),nI (N 10),nI (N 11),nI (N 12),nI (N 13),nI (N 14),nI (N 15),nI (N 16),nI (N 17)] 126,blk g [u,nI most,zI fl,.bool (gone)] 188,row u 191 4 l.length (l.flatMap riV),rws 48 l]
def Sto (p most:Nat) (σ:Stt) (X:HA):Prop:=∃ (g:Nat) (u:Value) (l:List RI),σ.l=sns l∧Oks σ.l most∧X=zFa (za4 p g u l most σ.floor σ.gone σ.n)
theorem zY9 (p g:Nat) (u:Value) (l:List RI) (most:Nat) (fl:Int) (gone:Bool) (N:Nat→Nat) (w0:World) (hp:(blk p [pt g 0,nI most,nI (N 0),nI (N 1),nI (N 2),nI (N 3),nI (N 4),nI (N 5),nI (N 6),nI (N 7),nI (N 8),nI (N 9),nI (N 10),nI (N 11),nI (N 12),nI (N 13),nI (N 14),nI (N 15),nI (N 16),nI (N 17)] 126).p w0) (hg:(blk g [u,nI most,zI fl,.bool (gone)] 188).p w0) (hu:Rd w0 [] u 4 l.length (l.flatMap riV)) (hrw:(rws 48 l).p w0) (ho:Oks (sns l) most):Calls Tryz.prog 56 #[pt p 0] w0 (zAf w0 (nI l.length)):=by
 have hiv:=zEc hrw
 have hsr:=ho.srt
 have hll:l.length≤100000:=by have:=ho.le;have:=ho.m64;rw [zAO] at *;omega
 have hm64:=ho.m64
 refine zG (F0:=[(0,pt p 0)]) func56 rfl rfl rfl (.c .n) (Mem.nil _) ?_
 refine go 7 [] [7] .n ?_
 intro a w hs;refine zZ hs rfl (hs.mem.keep hp (by simp [zO,blk])) .z isAgg123 rfl ?_
 intro a w hs;refine zB (v:=nI l.length) hs (.c rfl .n) call86 (zCs g _ l most fl gone _ (hs.rd0 hu) (hs.mem.keep hg (by simp [zO,blk])) hsr (by omega) hiv) rfl ?_
 refine goL 1 [] [2] .n ?_
 intro a w hs;exact fin hs rfl rfl ⟨rfl,rfl⟩
theorem zSY (p g:Nat) (u:Value) (l:List RI) (most:Nat) (fl:Int) (gone:Bool) (N:Nat→Nat) (w0:World) (hp:(blk p [pt g 0,nI most,nI (N 0),nI (N 1),nI (N 2),nI (N 3),nI (N 4),nI (N 5),nI (N 6),nI (N 7),nI (N 8),nI (N 9),nI (N 10),nI (N 11),nI (N 12),nI (N 13),nI (N 14),nI (N 15),nI (N 16),nI (N 17)] 126).p w0) (hg:(blk g [u,nI most,zI fl,.bool (gone)] 188).p w0) (hu:Rd w0 [] u 4 l.length (l.flatMap riV)) (hrw:(rws 48 l).p w0) (ho:Oks (sns l) most):Calls Tryz.prog 37 #[pt p 0] w0 (zAf w0 (nI (N 0))):=by
 have hiv:=zEc hrw
 have hsr:=ho.srt
 have hll:l.length≤100000:=by have:=ho.le;have:=ho.m64;rw [zAO] at *;omega
 have hm64:=ho.m64
 refine zG (F0:=[(0,pt p 0)]) func37 rfl rfl rfl (.c .n) (Mem.nil _) ?_
 refine go 8 [] [8] .n ?_
 intro a w hs;refine zZ hs rfl (hs.mem.keep hp (by simp [zO,blk])) (.s (.s .z)) isAgg3 rfl ?_
 refine goL 1 [] [2] .n ?_
 intro a w hs;exact fin hs rfl rfl ⟨rfl,rfl⟩
theorem zb5 (p g:Nat) (u:Value) (l:List RI) (most:Nat) (fl:Int) (gone:Bool) (N:Nat→Nat) (i:Int) (w0:World) (hp:(blk p [pt g 0,nI most,nI (N 0),nI (N 1),nI (N 2),nI (N 3),nI (N 4),nI (N 5),nI (N 6),nI (N 7),nI (N 8),nI (N 9),nI (N 10),nI (N 11),nI (N 12),nI (N 13),nI (N 14),nI (N 15),nI (N 16),nI (N 17)] 126).p w0) (hg:(blk g [u,nI most,zI fl,.bool (gone)] 188).p w0) (hu:Rd w0 [] u 4 l.length (l.flatMap riV)) (hrw:(rws 48 l).p w0) (ho:Oks (sns l) most):Calls Tryz.prog 57 #[pt p 0,zI i] w0 (Ret w0 [] λz Nn=>∃ v,z = .tuple #[.agg #[zI (rat l i).t,zI (rat l i).tm,v],nI (zLa (sns l) i)]∧Nn=[row v 48 9 ((rat l i).l.length) ((rat l i).l.flatMap zBJ)]):=by
 have hiv:=zEc hrw
 have hsr:=ho.srt
 have hll:l.length≤100000:=by have:=ho.le;have:=ho.m64;rw [zAO] at *;omega
 have hm64:=ho.m64
 have hrl:=zaO ho i
 refine zG (F0:=[(0,pt p 0),(1,zI i)]) func57 rfl rfl rfl (.c (.c .n)) (Mem.nil _) ?_
 refine go 8 [] [15,4,1] .n (λg1=>?_)
 intro a w hs;refine zZ hs rfl (hs.mem.keep hp (by simp [zO,blk])) .z isAgg123 rfl ?_
 refine goL 1 [] [17,16,4] .n ?_
 intro a w hs;refine zB (v:=.tuple #[zI ((rat l i).t),.agg #[zI ((rat l i).t),zI ((rat l i).tm),(rat l i).v],nI (zLa (sns l) i)]) hs (.c rfl (.c rfl .n)) call87 (zIw g _ l most fl gone i _ (hs.rd0 hu) (hs.mem.keep hg (by simp [zO,blk])) hsr (by omega) hiv) rfl ?_
 refine goL 6 [] [7,21,20,4] .n (λg2=>?_)
 intro a w hs;refine zAb hs rfl rfl .z (.z (.c (.c (.c .n)))) (zJ rfl (zJ rfl (zJ (zEj (hs.mem.keepH hrw (by simp)) (zKg l i)).isSl.one zAe))) sizeOf46 rfl ?_
 refine goL 2 [0] [22,8,4] (.c .z .n) ⟨rfl,?_⟩
 intro a w hs;refine zK hs (.c rfl .n) call63 .n (zRB ((rat l i).t) ((rat l i).tm) _ ((rat l i).l) _ (zEj (hs.mem.keepH hrw (by simp)) (zKg l i)) (by omega)) rfl ?_;clear hs w a;rintro _ _ a w ⟨v3,rfl,rfl⟩ hs
 revert a w hs
 refine goL 1 [] [24,23,4] .n ?_
 intro a w hs;refine zAb hs rfl rfl (.s (.s .z)) (.z (.c (.c (.c .n)))) (zJ rfl (zJ rfl (zJ (zP (hs.mem.del .z)).isSl.one zAe))) sizeOf46 rfl ?_
 refine goL 1 [] [5,4] .n ?_
 intro a w hs;exact zBQ hs rfl rfl rfl .z (.z (.c (.c (.c .n)))) isAgg46 sizeOf46 (.c (.s (.s .z)) (.c .z .n)) ⟨_,rfl,rfl⟩
theorem zZj (p g:Nat) (u:Value) (l:List RI) (most:Nat) (fl:Int) (gone:Bool) (N:Nat→Nat) (k:Int) (w0:World) (hp:(blk p [pt g 0,nI most,nI (N 0),nI (N 1),nI (N 2),nI (N 3),nI (N 4),nI (N 5),nI (N 6),nI (N 7),nI (N 8),nI (N 9),nI (N 10),nI (N 11),nI (N 12),nI (N 13),nI (N 14),nI (N 15),nI (N 16),nI (N 17)] 126).p w0) (hg:(blk g [u,nI most,zI fl,.bool (gone)] 188).p w0) (hu:Rd w0 [] u 4 l.length (l.flatMap riV)) (hrw:(rws 48 l).p w0) (ho:Oks (sns l) most):Calls Tryz.prog 39 #[pt p 0,zI k] w0 (Ret w0 [] λz Nn=>∃ v,z = .tuple #[.agg #[zI (zAd l k).t,zI (zAd l k).tm,v],.bool (zDA (sns l) k)]∧Nn=[row v 48 9 ((zAd l k).l.length) ((zAd l k).l.flatMap zBJ)]):=by
 have hiv:=zEc hrw
 have hsr:=ho.srt
 have hll:l.length≤100000:=by have:=ho.le;have:=ho.m64;rw [zAO] at *;omega
 have hm64:=ho.m64
 have hrl:=zPX ho k
 refine zG (F0:=[(0,pt p 0),(1,zI k)]) func39 rfl rfl rfl (.c (.c .n)) (Mem.nil _) ?_
 refine go 8 [] [14,4,1] .n (λg1=>?_)
 intro a w hs;refine zZ hs rfl (hs.mem.keep hp (by simp [zO,blk])) .z isAgg123 rfl ?_
 refine goL 1 [] [16,15,4] .n ?_
 intro a w hs;refine zB (v:=.tuple #[.agg #[zI ((zAd l k).t),zI ((zAd l k).tm),(zAd l k).v],.bool (zDA (sns l) k)]) hs (.c rfl (.c rfl .n)) call64 (zHT g _ l most fl gone k _ (hs.rd0 hu) (hs.mem.keep hg (by simp [zO,blk])) hsr (by omega) hiv) rfl ?_
 refine goL 4 [] [6,19,18,4] .n (λg2=>?_)
 intro a w hs;refine zAb hs rfl rfl .z (.z (.c (.c (.c .n)))) (zJ rfl (zJ rfl (zJ (zEj (hs.mem.keepH hrw (by simp)) (zFT l k hsr)).isSl.one zAe))) sizeOf46 rfl ?_
 refine goL 2 [0] [20,7,4] (.c .z .n) ⟨rfl,?_⟩
 intro a w hs;refine zK hs (.c rfl .n) call63 .n (zRB ((zAd l k).t) ((zAd l k).tm) _ ((zAd l k).l) _ (zEj (hs.mem.keepH hrw (by simp)) (zFT l k hsr)) (by omega)) rfl ?_;clear hs w a;rintro _ _ a w ⟨v3,rfl,rfl⟩ hs
 revert a w hs
 refine goL 1 [] [22,21,4] .n ?_
 intro a w hs;refine zAb hs rfl rfl (.s (.s .z)) (.z (.c (.c (.c .n)))) (zJ rfl (zJ rfl (zJ (zP (hs.mem.del .z)).isSl.one zAe))) sizeOf46 rfl ?_
 refine goL 1 [] [5,4] .n ?_
 intro a w hs;exact zBQ hs rfl rfl rfl .z (.z (.c (.c (.c .n)))) isAgg46 sizeOf46 (.c (.s (.s .z)) (.c .z .n)) ⟨_,rfl,rfl⟩
theorem zRR (k:Nat) (w0:World) (h:1≤k∧k≤64):Calls Tryz.prog 77 #[nI k] w0 (Ret w0 [] λz N=>∃ g,z = .tuple #[pt g 0,.int .i64 0]∧N=[blk g [.slice none 0 0,nI k,zI 0,.bool (false)] 188]):=by
 refine zG (F0:=[(0,nI k)]) func77 rfl rfl rfl (.c .n) (Mem.nil _) ?_
 refine go 4 [] [5,0] .n ?_
 have hb_:(decide (((k:Nat):Int)<1))=false:=decide_eq_false (by omega)
 intro a w hs;rw [hb_] at hs;clear hb_
 revert a w hs
 refine go 3 [] [8,6,0] .n ?_
 have hb_:(decide (64<((k:Nat):Int)))=false:=decide_eq_false (by omega)
 intro a w hs;rw [hb_] at hs;clear hb_
 revert a w hs
 refine go 7 [0] [3,2] .n (λg1=>?_)
 intro a w hs;exact zBR hs rfl rfl rfl ⟨_,rfl,rfl⟩
theorem zY8 (k:Nat) (w0:World) (hk:1≤k∧k≤64):Calls Tryz.prog 46 #[nI k] w0 (Ret w0 [] λz N=>∃ p g,z = .tuple #[pt p 0,.int .i64 0]∧N=za4 p g (.slice none 0 0) [] k 0 false (λ_=>0)):=by
 refine zG (F0:=[(0,nI k)]) func46 rfl rfl rfl (.c .n) (Mem.nil _) ?_
 refine go 3 [] [7,0] .n ?_
 intro a w hs;refine zK hs (.c rfl .n) call77 .n (zRR k _ hk) rfl ?_;clear hs w a;rintro _ _ a w ⟨g1,rfl,rfl⟩ hs
 revert a w hs
 refine goL 14 [0] [3,2] .n (λg2=>?_)
 refine cl (·.addNil 191 4) ?_
 refine cl (·.addRws 48) ?_
 refine cl (·.reorder (.c (.s (.s .z)) (.c (.s (.s .z)) (.c (.s .z) (.c .z .n))))) ?_
 intro a w hs;exact zBR hs rfl rfl rfl ⟨_,_,rfl,rfl⟩
theorem zIM {p most:Nat} {σ:Stt} {X:HA} {w:World} (hX:Sto p most σ X) (hp:X.p w):∃ (g:Nat) (u:Value) (l:List RI),σ.l=sns l∧Oks (sns l) most∧(blk p [pt g 0,nI most,nI (σ.n 0),nI (σ.n 1),nI (σ.n 2),nI (σ.n 3),nI (σ.n 4),nI (σ.n 5),nI (σ.n 6),nI (σ.n 7),nI (σ.n 8),nI (σ.n 9),nI (σ.n 10),nI (σ.n 11),nI (σ.n 12),nI (σ.n 13),nI (σ.n 14),nI (σ.n 15),nI (σ.n 16),nI (σ.n 17)] 126).p w∧(blk g [u,nI most,zI σ.floor,.bool (σ.gone)] 188).p w∧Rd w [] u 4 l.length (l.flatMap riV)∧(rws 48 l).p w:=by
 obtain ⟨g,u,l,hl,ho,rfl⟩:=hX
 refine ⟨g,u,l,hl,hl ▸ ho,hp.1 _ (by simp [za4]),hp.1 _ (by simp [za4]),zP (hp.1 (row u 191 4 l.length (l.flatMap riV)) (by simp [za4])),hp.1 _ (by simp [za4])⟩
theorem za9 {p most:Nat} {σ:Stt} {X:HA} (hX:Sto p most σ X) (w0:World) (hp:X.p w0):Calls Tryz.prog 56 #[pt p 0] w0 (zAf w0 (nI σ.l.length)):=by
 obtain ⟨g,u,l,hl,ho,h1,h2,h3,h4⟩:=zIM hX hp
 rw [hl,zAO]
 exact zY9 p g u l most σ.floor σ.gone σ.n w0 h1 h2 h3 h4 ho
theorem zXE {p most:Nat} {σ:Stt} {X:HA} (hX:Sto p most σ X) (w0:World) (hp:X.p w0):Calls Tryz.prog 37 #[pt p 0] w0 (zAf w0 (nI (σ.n 0))):=by
 obtain ⟨g,u,l,hl,ho,h1,h2,h3,h4⟩:=zIM hX hp
 exact zSY p g u l most σ.floor σ.gone σ.n w0 h1 h2 h3 h4 ho
theorem zdB {p most:Nat} {σ:Stt} {X:HA} (hX:Sto p most σ X) (i:Int) (w0:World) (hp:X.p w0):Calls Tryz.prog 57 #[pt p 0,.int .i64 i] w0 (Ret w0 [] λz N=>∃ v,z = .tuple #[.agg #[zI (sat σ.l i).t,zI (sat σ.l i).tm,v],nI (zLa σ.l i)]∧N=[row v 48 9 (sat σ.l i).l.length ((sat σ.l i).l.flatMap zBJ)]):=by
 obtain ⟨g,u,l,hl,ho,h1,h2,h3,h4⟩:=zIM hX hp
 rw [hl,← zEo l i]
 exact zb5 p g u l most σ.floor σ.gone σ.n i w0 h1 h2 h3 h4 ho
theorem zbk {p most:Nat} {σ:Stt} {X:HA} (hX:Sto p most σ X) (k:Int) (w0:World) (hp:X.p w0):Calls Tryz.prog 39 #[pt p 0,.int .i64 k] w0 (Ret w0 [] λz N=>∃ v,z = .tuple #[.agg #[zI (zFW σ.l k).t,zI (zFW σ.l k).tm,v],.bool (zDA σ.l k)]∧N=[row v 48 9 (zFW σ.l k).l.length ((zFW σ.l k).l.flatMap zBJ)]):=by
 obtain ⟨g,u,l,hl,ho,h1,h2,h3,h4⟩:=zIM hX hp
 rw [hl,← zKW l k ho.srt]
 exact zZj p g u l most σ.floor σ.gone σ.n k w0 h1 h2 h3 h4 ho
theorem zS0 {p most:Nat} {σ:Stt} {X:HA} (hX:Sto p most σ X) (hN:∀ i,σ.n i≤1000000) {v:Value} {m:Nat} {bs:List zN} (w0:World) (hp:X.p w0) (hb:Rd w0 (zO [X]) v 1 m (zC bs)):Calls Tryz.prog 38 #[pt p 0,v] w0 (Ret w0 (zO [X]) λz Nn=>z = .tuple #[zI (zJo σ.l most σ.floor σ.gone (zA bs)),nI (zBO σ.l most σ.floor σ.gone (zA bs))]∧∃ X',Nn=[X']∧Sto p most (zBr most σ (zA bs)) X'):=by
 have hok:=hX.imp λg h=>h
 obtain ⟨g,u,l,hl,ho,rfl⟩:=hX
 obtain ⟨L,fl,gone,N⟩:=σ
 simp only at hl ho hN
 subst hl
 obtain ⟨hall,hnd⟩:=hp
 rw [zB3] at hb ⊢
 refine (zTP p g u l most fl gone N v m bs w0 hall hnd ho hN hb).mono ?_
 rintro e w' ⟨z,Nn,rfl,⟨rfl,u',l',hl',rfl⟩,hM⟩
 exact ⟨_,_,rfl,⟨rfl,_,rfl,g,u',l',hl',zI9 (σ:=⟨sns l,fl,gone,N⟩) ho,rfl⟩,hM.sep⟩
theorem zbs (k:Nat) (w0:World) (hk:1≤k∧k≤64):Calls Tryz.prog 46 #[nI k] w0 (Ret w0 [] λz N=>∃ p X,z = .tuple #[pt p 0,.int .i64 0]∧N=[X]∧Sto p k zXo X):=by
 refine (zY8 k w0 hk).mono ?_
 rintro e w' ⟨z,Nn,rfl,⟨p,g,rfl,rfl⟩,hM⟩
 exact ⟨_,_,rfl,⟨p,_,rfl,rfl,g,_,[],rfl,zY0 hk,rfl⟩,hM.sep⟩
end Go.Proofs.YtajjkegcfmhghaaGreat
