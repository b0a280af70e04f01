import Derived.Test.YtemnjodhidlfpaaGreatQG20
import Derived.Test.YtemnjodhidlfpaaGreatQG21
import Derived.Test.YtemnjodhidlfpaaGreatQSxBasB
/- Walks of what bytes tell: what each function does, over the program of this seat. Printed by a program of this session. -/
namespace Go.Proofs.YtemnjodhidlfpaaGreat
open Tryz
open Go Go.Sx Go.RowKit
set_option linter.unusedVariables false
set_option linter.unusedSimpArgs false
set_option maxRecDepth 4000
set_option maxHeartbeats 1000000

theorem zWI (p g:Nat) (u:Value) (l:List RI) (most:Nat) (fl:Int) (gone:Bool) (N:Nat → Nat) (v:Value) (m:Nat) (bs:List zQ) (w0:World) (hp:(blk p [pt g 0,nI most,nI (N 0),nI (N 1),nI (N 2),nI (N 3),nI (N 4),nI (N 5),nI (N 6),nI (N 7),nI (N 8),nI (N 9),nI (N 10),nI (N 11),nI (N 12),nI (N 13),nI (N 14),nI (N 15),nI (N 16),nI (N 17)] 127).p w0) (hg:(blk g [u,nI most,zI fl,.bool (gone)] 186).p w0) (hu:Rd w0 [] u 4 l.length (l.flatMap riV)) (hrw:(rws 142 l).p w0) (ho:Oks (sns l) most) (hb:Rd w0 [] v 1 m (zC bs)):Calls Tryz.prog 75 #[pt p 0,v] w0 (Ret w0 [] fun z Nn=>∃ (X:zU) (xv:Value),z = .tuple #[.agg #[.int .i64 X.t,.int .i64 X.tm,xv],nI (zBi (sns l) most fl gone (zA bs))] ∧ (zBi (sns l) most fl gone (zA bs) = 0 → X = (zAZ (sns l) (zA bs))) ∧ Nn = [row xv 142 9 X.l.length (X.l.flatMap zBN)]):=by
 have hbl:bs.length = m:=by have:=hb.len;simpa [zC] using this
 have hbe:m ≤ maxLen:=hb.le
 simp only [maxLen] at hbe
 have hiv:=zEo hrw
 have hsr:=ho.srt
 have hll:l.length ≤ 100000:=by have:=ho.le;have:=ho.m64;rw [zAH] at *;omega
 have hgl:=zHL bs
 have hbr:=zND ho (zA bs).b
 refine zG (F0:=[(0,pt p 0),(1,v)]) func75 rfl rfl rfl (.c (.c .n)) (Mem.nil _) ?_
 refine go 3 [] [13,5,4,0] .n (fun g1=>fun g2=>?_)
 intro a w hs;refine zM hs (.c rfl .n) call18 .n (zUv _ _ bs _ (hs.rd0 hb)) rfl ?_;clear hs w a;rintro _ _ a w ⟨v3,rfl,rfl⟩ hs
 have hk4:=zHL bs
 revert a w hs
 refine goL 4 [] [6,16,15,5,4,0] .n (fun g5=>?_)
 intro a w hs;refine zAe hs rfl rfl .z (.z (.c (.c (.c (.c .n))))) (zJ rfl (zJ rfl (zJ rfl (zJ (zL (hs.mem.del (.s .z))).isSl.one zAb)))) sizeOf60 rfl ?_
 refine goL 3 [0,0] [18,6,5,4,0] (.c (.s (.s .z)) .n) ⟨rfl,rfl,?_⟩
 refine ifG rfl (fun c_6=>?_) (fun c_6=>?_)
 ·
  refine cl (·.addNil 142 9) ?_
  refine go 0 [] [5,4] .n ?_
  intro a w hs
  refine zS [.l [] [0] [2] [],.l [] [0] [3] [],.s [0] [0] [0] [],.s [1] [0] [1] []] [] hs (.c (.s (.s (.s (.s .z)))) (.c (.s .z) .n)) .n (by kernel_rfl) ⟨rfl,rfl,rfl,rfl,⟨rfl,by kernel_rfl,fun _=>rfl,rfl,rfl,trivial⟩,fun _=>rfl,?_⟩
  refine goE 0 [] [5,4] .n ?_
  intro a w hs;exact zQ8 hs rfl rfl rfl (.s (.s (.s .z))) (.z (.c (.c (.c .n)))) isAgg44 sizeOf44 (.s (.s (.s (.s .z)))) .z isAgg26 (.c (.s (.s (.s (.s .z)))) (.c (.s (.s (.s .z))) (.c (.s (.s .z)) (.c (.s .z) .n)))) ⟨default,_,by rw [zVO (by omega)] <;> rfl,fun h=>absurd h (by rw [zVO (by omega)];omega),rfl⟩
 refine go 2 [] [7,6,5,4,0] .n ?_
 intro a w hs
 refine zAS [.p [] [],.p [0] [],.p [1] [],.v [2] (pt g 0),.p [] [],.p [4] [0],.v [5,3] (.tuple #[.agg #[zI ((zAV l ((zA bs).t)).t),zI ((zAV l ((zA bs).t)).tm),(zAV l ((zA bs).t)).v],.bool (zDU (sns l) ((zA bs).t))]),.p [6] [],.p [7] [],.p [7] [],.x [] ⟨[],[],[],fun vs8=>vs8 10 = pt (zCs (vs8 10)) 0,fun vs8=>[blk (zCs (vs8 10)) [zI 0,zI 0,.slice none 0 0] 44],none⟩,.x [8] ⟨[],[10],[10],fun vs8=>True,fun vs8=>[blk (zCs (vs8 10)) [zI ((zAV l ((zA bs).t)).t),zI ((zAV l ((zA bs).t)).tm),(zAV l ((zA bs).t)).v] 44],none⟩,.p [9] []] [12] hs .n .n (.c (.s .z) .n) (by kernel_rfl) ⟨fun _ _ _ _ hm hs K=>zX hs rfl (hm.keep hp (by simp [zO,blk])) .z isAgg123 rfl (vk K),rfl,fun _ _ _ _ hm hs K=>zB (v:=.tuple #[.agg #[zI ((zAV l ((zA bs).t)).t),zI ((zAV l ((zA bs).t)).tm),(zAV l ((zA bs).t)).v],.bool (zDU (sns l) ((zA bs).t))]) hs (.c rfl (.c rfl .n)) call63 (zGS g _ l most fl gone ((zA bs).t) _ (hm.rd0 hu) (hm.keep hg (by simp [zO,blk])) hsr (by omega) hiv) rfl (vk K),⟨.n,by kernel_rfl,fun _=>rfl,rfl,rfl⟩,⟨?_,?_,trivial⟩,?_⟩
 ·
  intro a_ w_ R_ rest_ vs8 hm hs ht hx
  have hs0:=hs.bare
  refine zCa (cs:=[zI 0,zI 0,.slice none 0 0]) hs zeroValue44 rfl rfl ?_;clear hs;intro g9 a w hs
  exact wpList_nil ⟨rfl,_,_,hs0,.r,hs,rfl⟩
 ·
  intro a_ w_ R_ rest_ vs8 hm hs ht hx
  have t10:=ht 10 (zK 13 _ (by kernel_rfl))
  have e10:_ = some (vs8 10):=t10.val rfl
  rw [show vs8 10 = pt (zCs (vs8 10)) 0 from t10.2.1] at e10
  replace hs:=hs.learn e10
  have hs0:=hs.bare
  refine zAe hs rfl rfl .z (.z (.c (.c (.c .n)))) (zJ rfl (zJ rfl (zJ (zEE (hm.keepH hrw (by simp)) (zE8 l ((zA bs).t) hsr)).isSl.one zAb))) sizeOf44 rfl ?_;clear hs;intro a w hs
  exact wpList_nil ⟨rfl,.tuple #[],_,hs0,(.c (.c .r)),hs,trivial⟩
 clear hs w a;intro vs8 a w hs hf
 generalize zCs (vs8 10) = g10 at hs
 clear hf
 revert a w hs
 refine goE 2 [] [33,32,7,6,5,4,0] .n ?_
 intro a w hs;refine zA6 (us:=[pt g2 0]) hs rfl (.c rfl (.c rfl .n)) rfl call112 (.c .z .n) (zEh (zDU (sns l) ((zA bs).t)) 12 ((zA bs).e) g2 _ _ (hs.mem.del .z)) rfl ?_;clear hs w a;rintro _ _ a w ⟨rfl,rfl⟩ hs
 revert a w hs
 refine goL 4 [0] [38,36,35,7,6,5,4,0] (.c (.s .z) .n) ⟨rfl,?_⟩
 intro a w hs;refine zB (v:=.bool (stl (sns l) most fl gone ((zA bs).t))) hs (.c rfl (.c rfl .n)) call113 (zSp p g _ l most fl gone N ((zA bs).t) _ (hs.mem.keep hp (by simp [zO,blk])) (hs.mem.keep hg (by simp [zO,blk])) (hs.rd0 hu) (hs.mem.keepH hrw (by simp)) ho) rfl ?_
 intro a w hs;refine zA6 (us:=[pt g2 0]) hs rfl (.c rfl (.c rfl .n)) rfl call112 (.c (.s .z) .n) (zEh (stl (sns l) most fl gone ((zA bs).t)) 13 (zFE ((zA bs).e) (zDU (sns l) ((zA bs).t)) 12) g2 _ _ (hs.mem.del (.s .z))) rfl ?_;clear hs w a;rintro _ _ a w ⟨rfl,rfl⟩ hs
 revert a w hs
 refine goL 0 [] [7,6,5,4,0] .n ?_
 intro a w hs
 refine zAS [.p [] [],.p [0] [],.p [1] [],.v [2] (pt g 0),.p [] [],.p [4] [0],.v [5,3] (.tuple #[.agg #[zI ((zAV l ((zA bs).b)).t),zI ((zAV l ((zA bs).b)).tm),(zAV l ((zA bs).b)).v],.bool (zDU (sns l) ((zA bs).b))]),.p [6] [],.p [7] [],.p [7] [],.x [] ⟨[],[],[],fun vs11=>vs11 10 = pt (zCs (vs11 10)) 0,fun vs11=>[blk (zCs (vs11 10)) [zI 0,zI 0,.slice none 0 0] 44],none⟩,.x [8] ⟨[],[10],[10],fun vs11=>True,fun vs11=>[blk (zCs (vs11 10)) [zI ((zAV l ((zA bs).b)).t),zI ((zAV l ((zA bs).b)).tm),(zAV l ((zA bs).b)).v] 44],none⟩,.p [9] []] [12] hs .n .n (.c (.s .z) .n) (by kernel_rfl) ⟨fun _ _ _ _ hm hs K=>zX hs rfl (hm.keep hp (by simp [zO,blk])) .z isAgg123 rfl (vk K),rfl,fun _ _ _ _ hm hs K=>zB (v:=.tuple #[.agg #[zI ((zAV l ((zA bs).b)).t),zI ((zAV l ((zA bs).b)).tm),(zAV l ((zA bs).b)).v],.bool (zDU (sns l) ((zA bs).b))]) hs (.c rfl (.c rfl .n)) call63 (zGS g _ l most fl gone ((zA bs).b) _ (hm.rd0 hu) (hm.keep hg (by simp [zO,blk])) hsr (by omega) hiv) rfl (vk K),⟨.n,by kernel_rfl,fun _=>rfl,rfl,rfl⟩,⟨?_,?_,trivial⟩,?_⟩
 ·
  intro a_ w_ R_ rest_ vs11 hm hs ht hx
  have hs0:=hs.bare
  refine zCa (cs:=[zI 0,zI 0,.slice none 0 0]) hs zeroValue44 rfl rfl ?_;clear hs;intro g12 a w hs
  exact wpList_nil ⟨rfl,_,_,hs0,.r,hs,rfl⟩
 ·
  intro a_ w_ R_ rest_ vs11 hm hs ht hx
  have t10:=ht 10 (zK 13 _ (by kernel_rfl))
  have e10:_ = some (vs11 10):=t10.val rfl
  rw [show vs11 10 = pt (zCs (vs11 10)) 0 from t10.2.1] at e10
  replace hs:=hs.learn e10
  have hs0:=hs.bare
  refine zAe hs rfl rfl .z (.z (.c (.c (.c .n)))) (zJ rfl (zJ rfl (zJ (zEE (hm.keepH hrw (by simp)) (zE8 l ((zA bs).b) hsr)).isSl.one zAb))) sizeOf44 rfl ?_;clear hs;intro a w hs
  exact wpList_nil ⟨rfl,.tuple #[],_,hs0,(.c (.c .r)),hs,trivial⟩
 clear hs w a;intro vs11 a w hs hf
 obtain ⟨e10,q10⟩:=hf 10 (by decide)
 replace e10:_ = some (vs11 10):=e10.val rfl
 rw [show vs11 10 = pt (zCs (vs11 10)) 0 from q10] at e10
 replace hs:=hs.learn e10;clear e10 q10
 generalize zCs (vs11 10) = g13 at hs
 clear hf
 revert a w hs
 refine goE 4 [] [54,51,10,7,6,5,4,0] .n ?_
 intro a w hs;refine zW (b:=!(zDU (sns l) ((zA bs).b))) (fun c_14=>?_) (fun c_14=>?_)
 ·
  rw [c_14] at hs
  replace c_14:=zFV c_14
  revert a w hs
  refine go 4 [0] [58,51,10,7,6,5,4,0] (.c (.s .z) .n) ⟨rfl,?_⟩
  intro a w hs;replace hs:=hs.reslot (d:=58) (v:=.bool (decide (0 ≤ ((zA bs).b)))) (v':=.bool (zIW (sns l) (zA bs).b)) rfl (Option.some.inj (congrArg (fun b=>some (Value.bool b)) (by unfold zIW;simp_all)))
  refine zA6 (us:=[pt g2 0]) hs rfl (.c rfl (.c rfl .n)) rfl call112 (.c (.s .z) .n) (zEh (zIW (sns l) (zA bs).b) 14 (zFE (zFE ((zA bs).e) (zDU (sns l) ((zA bs).t)) 12) (stl (sns l) most fl gone ((zA bs).t)) 13) g2 _ _ (hs.mem.del (.s .z))) rfl ?_;clear hs w a;rintro _ _ a w ⟨rfl,rfl⟩ hs
  revert a w hs
  refine goL 2 [0] [61,10,7,6,5,4,0] (.c .z .n) ⟨rfl,?_⟩
  refine ifG rfl (fun c_15=>?_) (fun c_15=>?_)
  ·
   refine go 2 [0,1] [64,63,7,5,4,0] (.c (.s (.s (.s (.s (.s .z))))) (.c (.s .z) .n)) ⟨rfl,rfl,?_⟩
   intro a w hs;refine zM hs (.c rfl (.c rfl .n)) call114 .n (zLH ((zAV l ((zA bs).b)).t) ((zAV l ((zA bs).b)).tm) _ ((zAV l ((zA bs).b)).l) ((zA bs).t) ((zA bs).tm) ((zA bs).b) _ ((zA bs).l) _ (by omega) (by omega) (by omega) (by omega) (by omega) (zEE (hs.mem.keepH hrw (by simp)) (zE8 l ((zA bs).b) hsr)) (zL (hs.mem.del (.s (.s (.s .z))))) (zJm bs)) rfl ?_;clear hs w a;rintro _ _ a w ⟨v16,rfl,rfl⟩ hs
   have hk17:=zNA (at_:=((zAV l ((zA bs).b)).t)) (atm:=((zAV l ((zA bs).b)).tm)) (a:=(zAV l ((zA bs).b)).l) (gt:=((zA bs).t)) (gtm:=((zA bs).tm)) (gb:=((zA bs).b)) (rl:=(zA bs).l)
   revert a w hs
   refine goL 3 [] [67,66,7,5,4,0] .n ?_
   intro a w hs;refine zAe hs rfl rfl (.s (.s (.s (.s (.s .z))))) (.z (.c (.c (.c .n)))) (zJ rfl (zJ rfl (zJ (zL (hs.mem.del .z)).isSl.one zAb))) sizeOf44 rfl ?_
   refine goL 4 [0,1] [70,69,68,5,4] (.c (.s (.s (.s (.s .z)))) (.c .z .n)) ⟨rfl,rfl,?_⟩
   intro a w hs;refine zB (v:=.bool (tml (sns l) ((aS ((zAV l ((zA bs).b)).t) ((zAV l ((zA bs).b)).tm) ((zAV l ((zA bs).b)).l) ((zA bs).t) ((zA bs).tm) ((zA bs).b) ((zA bs).l)).t) ((aS ((zAV l ((zA bs).b)).t) ((zAV l ((zA bs).b)).tm) ((zAV l ((zA bs).b)).l) ((zA bs).t) ((zA bs).tm) ((zA bs).b) ((zA bs).l)).tm))) hs (.c rfl (.c rfl .n)) call115 (zE7 p g _ l most fl gone N ((aS ((zAV l ((zA bs).b)).t) ((zAV l ((zA bs).b)).tm) ((zAV l ((zA bs).b)).l) ((zA bs).t) ((zA bs).tm) ((zA bs).b) ((zA bs).l)).t) ((aS ((zAV l ((zA bs).b)).t) ((zAV l ((zA bs).b)).tm) ((zAV l ((zA bs).b)).l) ((zA bs).t) ((zA bs).tm) ((zA bs).b) ((zA bs).l)).tm) _ _ (zL (hs.mem.del (.s (.s .z)))).isSl _ (hs.mem.keep hp (by simp [zO,blk])) (hs.mem.keep hg (by simp [zO,blk])) (hs.rd0 hu) (hs.mem.keepH hrw (by simp)) ho) rfl ?_
   refine goL 1 [] [72,68,5,4] .n ?_
   intro a w hs;refine zA6 (us:=[pt g2 0]) hs rfl (.c rfl (.c rfl .n)) rfl call112 (.c .z .n) (zEh (!(tml (sns l) ((aS ((zAV l ((zA bs).b)).t) ((zAV l ((zA bs).b)).tm) ((zAV l ((zA bs).b)).l) ((zA bs).t) ((zA bs).tm) ((zA bs).b) ((zA bs).l)).t) ((aS ((zAV l ((zA bs).b)).t) ((zAV l ((zA bs).b)).tm) ((zAV l ((zA bs).b)).l) ((zA bs).t) ((zA bs).tm) ((zA bs).b) ((zA bs).l)).tm))) 16 (aE ((zAV l ((zA bs).b)).t) ((zAV l ((zA bs).b)).tm) ((zAV l ((zA bs).b)).l) ((zA bs).t) ((zA bs).tm) ((zA bs).b) ((zA bs).l)) g2 _ _ (hs.mem.del .z)) rfl ?_;clear hs w a;rintro _ _ a w ⟨rfl,rfl⟩ hs
   revert a w hs
   refine goL 0 [] [5,4] .n ?_
   intro a w hs
   refine zAS [.y [] (.agg #[zI ((aS ((zAV l ((zA bs).b)).t) ((zAV l ((zA bs).b)).tm) ((zAV l ((zA bs).b)).l) ((zA bs).t) ((zA bs).tm) ((zA bs).b) ((zA bs).l)).t),zI ((aS ((zAV l ((zA bs).b)).t) ((zAV l ((zA bs).b)).tm) ((zAV l ((zA bs).b)).l) ((zA bs).t) ((zA bs).tm) ((zA bs).b) ((zA bs).l)).tm),v16]) [] [] [] fun vs18=>[],.l [] [0] [3] [],.x [0] ⟨[blk g1 [zI ((aS ((zAV l ((zA bs).b)).t) ((zAV l ((zA bs).b)).tm) ((zAV l ((zA bs).b)).l) ((zA bs).t) ((zA bs).tm) ((zA bs).b) ((zA bs).l)).t),zI ((aS ((zAV l ((zA bs).b)).t) ((zAV l ((zA bs).b)).tm) ((zAV l ((zA bs).b)).l) ((zA bs).t) ((zA bs).tm) ((zA bs).b) ((zA bs).l)).tm),v16] 44],[],[],fun vs18=>True,fun vs18=>[blk g1 [zI ((aS ((zAV l ((zA bs).b)).t) ((zAV l ((zA bs).b)).tm) ((zAV l ((zA bs).b)).l) ((zA bs).t) ((zA bs).tm) ((zA bs).b) ((zA bs).l)).t),zI ((aS ((zAV l ((zA bs).b)).t) ((zAV l ((zA bs).b)).tm) ((zAV l ((zA bs).b)).l) ((zA bs).t) ((zA bs).tm) ((zA bs).b) ((zA bs).l)).tm),v16] 44],none⟩,.s [1] [0] [0] []] [] hs (.c .z .n) (.c .z .n) .n (by kernel_rfl) ⟨rfl,rfl,⟨(.c (.s .z) (.c .z .n)),by kernel_rfl,fun _=>rfl,rfl,rfl⟩,⟨?_,?_,trivial⟩,?_⟩
   ·
    intro a_ w_ R_ rest_ vs18 hm hs ht hx
    have hs0:=hs.bare
    refine zSC hs rfl (hm.own (List.mem_append.2 (.inr ((hx 2 (zK 4 _ (by kernel_rfl))).1 _ (List.Mem.head _))))) (.z (.c (.c (.c .n)))) isAgg44 sizeOf44 rfl ?_;clear hs;intro a w hs
    exact wpList_nil ⟨rfl,_,_,hs0,.r,hs,rfl⟩
   ·
    intro a_ w_ R_ rest_ vs18 hm hs ht hx
    have hm0:=hm.mid
    have hs0:=hs.bare
    refine zAe hs rfl rfl .z (.z (.c (.c (.c .n)))) (zJ rfl (zJ rfl (zJ (zL (hm0.del .z)).isSl.one zAb))) sizeOf44 rfl ?_;clear hs;intro a w hs
    exact wpList_nil ⟨rfl,.tuple #[],_,hs0,(.c .r),hs,trivial⟩
   clear hs w a;intro vs18 a w hs hf
   clear hf
   revert a w hs
   refine goE 0 [] [5,4] .n ?_
   intro a w hs;exact zQ8 hs rfl rfl rfl (.s (.s (.s (.s (.s .z))))) (.z (.c (.c (.c .n)))) isAgg44 sizeOf44 (.s (.s (.s (.s (.s (.s .z)))))) .z isAgg26 (.c (.s (.s (.s (.s (.s (.s .z)))))) (.c (.s (.s (.s (.s (.s .z))))) (.c (.s (.s (.s (.s .z)))) (.c (.s (.s (.s .z))) (.c (.s (.s .z)) (.c (.s .z) .n)))))) ⟨_,_,by rw [zVB (by omega) (by show zFE _ _ _ = 0;omega),zI7 hsr,zFp hsr] <;> rfl,fun _=>(zFp hsr).symm,rfl⟩
  refine cl (·.addNil 142 9) ?_
  refine go 3 [0] [70,69,68,5,4] (.c (.s (.s (.s (.s .z)))) .n) ⟨rfl,?_⟩
  intro a w hs;refine zB (v:=.bool (tml (sns l) 0 0)) hs (.c rfl (.c rfl .n)) call115 (zE7 p g _ l most fl gone N 0 0 _ _ ⟨_,_,rfl⟩ _ (hs.mem.keep hp (by simp [zO,blk])) (hs.mem.keep hg (by simp [zO,blk])) (hs.rd0 hu) (hs.mem.keepH hrw (by simp)) ho) rfl ?_
  refine goL 1 [] [72,68,5,4] .n ?_
  intro a w hs;refine zA6 (us:=[pt g2 0]) hs rfl (.c rfl (.c rfl .n)) rfl call112 (.c (.s (.s .z)) .n) (zEh (!(tml (sns l) 0 0)) 16 (zFE (zFE (zFE ((zA bs).e) (zDU (sns l) ((zA bs).t)) 12) (stl (sns l) most fl gone ((zA bs).t)) 13) (zIW (sns l) (zA bs).b) 14) g2 _ _ (hs.mem.del (.s (.s .z)))) rfl ?_;clear hs w a;rintro _ _ a w ⟨rfl,rfl⟩ hs
  revert a w hs
  refine goL 0 [] [5,4] .n ?_
  intro a w hs
  refine zS [.l [] [0] [2] [],.l [] [0] [3] [],.s [0] [0] [0] [],.s [1] [0] [1] []] [] hs (.c (.s .z) (.c .z .n)) .n (by kernel_rfl) ⟨rfl,rfl,rfl,rfl,⟨rfl,by kernel_rfl,fun _=>rfl,rfl,rfl,trivial⟩,fun _=>rfl,?_⟩
  refine goE 0 [] [5,4] .n ?_
  intro a w hs;exact zQ8 hs rfl rfl rfl (.s (.s (.s (.s (.s .z))))) (.z (.c (.c (.c .n)))) isAgg44 sizeOf44 (.s (.s (.s (.s (.s (.s .z)))))) .z isAgg26 (.c (.s (.s (.s (.s (.s (.s .z)))))) (.c (.s (.s (.s (.s (.s .z))))) (.c (.s (.s (.s (.s .z)))) (.c (.s (.s (.s .z))) (.c (.s (.s .z)) (.c (.s .z) .n)))))) ⟨default,_,by rw [zNk (by omega) (by show zFE _ _ _ ≠ 0;omega),zKN (by omega)] <;> rfl,fun h=>absurd h (by rw [zNk (by omega) (by show zFE _ _ _ ≠ 0;omega)];show ¬ zFE _ _ _ = 0;omega),rfl⟩
 rw [c_14] at hs
 replace c_14:=zFM c_14
 revert a w hs
 refine go 4 [] [58,51,10,7,6,5,4,0] .n ?_
 intro a w hs;replace hs:=hs.reslot (d:=58) (v:=.bool (false)) (v':=.bool (zIW (sns l) (zA bs).b)) rfl (Option.some.inj (congrArg (fun b=>some (Value.bool b)) (by unfold zIW;simp_all)))
 refine zA6 (us:=[pt g2 0]) hs rfl (.c rfl (.c rfl .n)) rfl call112 (.c .z .n) (zEh (zIW (sns l) (zA bs).b) 14 (zFE (zFE ((zA bs).e) (zDU (sns l) ((zA bs).t)) 12) (stl (sns l) most fl gone ((zA bs).t)) 13) g2 _ _ (hs.mem.del .z)) rfl ?_;clear hs w a;rintro _ _ a w ⟨rfl,rfl⟩ hs
 revert a w hs
 refine goL 2 [0] [61,10,7,6,5,4,0] (.c .z .n) ⟨rfl,?_⟩
 refine ifG rfl (fun c_20=>?_) (fun c_20=>?_)
 ·
  refine go 2 [0,1] [64,63,7,5,4,0] (.c (.s (.s (.s (.s (.s .z))))) (.c (.s .z) .n)) ⟨rfl,rfl,?_⟩
  intro a w hs;refine zM hs (.c rfl (.c rfl .n)) call114 .n (zLH ((zAV l ((zA bs).b)).t) ((zAV l ((zA bs).b)).tm) _ ((zAV l ((zA bs).b)).l) ((zA bs).t) ((zA bs).tm) ((zA bs).b) _ ((zA bs).l) _ (by omega) (by omega) (by omega) (by omega) (by omega) (zEE (hs.mem.keepH hrw (by simp)) (zE8 l ((zA bs).b) hsr)) (zL (hs.mem.del (.s (.s (.s .z))))) (zJm bs)) rfl ?_;clear hs w a;rintro _ _ a w ⟨v21,rfl,rfl⟩ hs
  have hk22:=zNA (at_:=((zAV l ((zA bs).b)).t)) (atm:=((zAV l ((zA bs).b)).tm)) (a:=(zAV l ((zA bs).b)).l) (gt:=((zA bs).t)) (gtm:=((zA bs).tm)) (gb:=((zA bs).b)) (rl:=(zA bs).l)
  revert a w hs
  refine goL 3 [] [67,66,7,5,4,0] .n ?_
  intro a w hs;refine zAe hs rfl rfl (.s (.s (.s (.s (.s .z))))) (.z (.c (.c (.c .n)))) (zJ rfl (zJ rfl (zJ (zL (hs.mem.del .z)).isSl.one zAb))) sizeOf44 rfl ?_
  refine goL 4 [0,1] [70,69,68,5,4] (.c (.s (.s (.s (.s .z)))) (.c .z .n)) ⟨rfl,rfl,?_⟩
  intro a w hs;refine zB (v:=.bool (tml (sns l) ((aS ((zAV l ((zA bs).b)).t) ((zAV l ((zA bs).b)).tm) ((zAV l ((zA bs).b)).l) ((zA bs).t) ((zA bs).tm) ((zA bs).b) ((zA bs).l)).t) ((aS ((zAV l ((zA bs).b)).t) ((zAV l ((zA bs).b)).tm) ((zAV l ((zA bs).b)).l) ((zA bs).t) ((zA bs).tm) ((zA bs).b) ((zA bs).l)).tm))) hs (.c rfl (.c rfl .n)) call115 (zE7 p g _ l most fl gone N ((aS ((zAV l ((zA bs).b)).t) ((zAV l ((zA bs).b)).tm) ((zAV l ((zA bs).b)).l) ((zA bs).t) ((zA bs).tm) ((zA bs).b) ((zA bs).l)).t) ((aS ((zAV l ((zA bs).b)).t) ((zAV l ((zA bs).b)).tm) ((zAV l ((zA bs).b)).l) ((zA bs).t) ((zA bs).tm) ((zA bs).b) ((zA bs).l)).tm) _ _ (zL (hs.mem.del (.s (.s .z)))).isSl _ (hs.mem.keep hp (by simp [zO,blk])) (hs.mem.keep hg (by simp [zO,blk])) (hs.rd0 hu) (hs.mem.keepH hrw (by simp)) ho) rfl ?_
  refine goL 1 [] [72,68,5,4] .n ?_
  intro a w hs;refine zA6 (us:=[pt g2 0]) hs rfl (.c rfl (.c rfl .n)) rfl call112 (.c .z .n) (zEh (!(tml (sns l) ((aS ((zAV l ((zA bs).b)).t) ((zAV l ((zA bs).b)).tm) ((zAV l ((zA bs).b)).l) ((zA bs).t) ((zA bs).tm) ((zA bs).b) ((zA bs).l)).t) ((aS ((zAV l ((zA bs).b)).t) ((zAV l ((zA bs).b)).tm) ((zAV l ((zA bs).b)).l) ((zA bs).t) ((zA bs).tm) ((zA bs).b) ((zA bs).l)).tm))) 16 (aE ((zAV l ((zA bs).b)).t) ((zAV l ((zA bs).b)).tm) ((zAV l ((zA bs).b)).l) ((zA bs).t) ((zA bs).tm) ((zA bs).b) ((zA bs).l)) g2 _ _ (hs.mem.del .z)) rfl ?_;clear hs w a;rintro _ _ a w ⟨rfl,rfl⟩ hs
  revert a w hs
  refine goL 0 [] [5,4] .n ?_
  intro a w hs
  refine zAS [.y [] (.agg #[zI ((aS ((zAV l ((zA bs).b)).t) ((zAV l ((zA bs).b)).tm) ((zAV l ((zA bs).b)).l) ((zA bs).t) ((zA bs).tm) ((zA bs).b) ((zA bs).l)).t),zI ((aS ((zAV l ((zA bs).b)).t) ((zAV l ((zA bs).b)).tm) ((zAV l ((zA bs).b)).l) ((zA bs).t) ((zA bs).tm) ((zA bs).b) ((zA bs).l)).tm),v21]) [] [] [] fun vs23=>[],.l [] [0] [3] [],.x [0] ⟨[blk g1 [zI ((aS ((zAV l ((zA bs).b)).t) ((zAV l ((zA bs).b)).tm) ((zAV l ((zA bs).b)).l) ((zA bs).t) ((zA bs).tm) ((zA bs).b) ((zA bs).l)).t),zI ((aS ((zAV l ((zA bs).b)).t) ((zAV l ((zA bs).b)).tm) ((zAV l ((zA bs).b)).l) ((zA bs).t) ((zA bs).tm) ((zA bs).b) ((zA bs).l)).tm),v21] 44],[],[],fun vs23=>True,fun vs23=>[blk g1 [zI ((aS ((zAV l ((zA bs).b)).t) ((zAV l ((zA bs).b)).tm) ((zAV l ((zA bs).b)).l) ((zA bs).t) ((zA bs).tm) ((zA bs).b) ((zA bs).l)).t),zI ((aS ((zAV l ((zA bs).b)).t) ((zAV l ((zA bs).b)).tm) ((zAV l ((zA bs).b)).l) ((zA bs).t) ((zA bs).tm) ((zA bs).b) ((zA bs).l)).tm),v21] 44],none⟩,.s [1] [0] [0] []] [] hs (.c .z .n) (.c .z .n) .n (by kernel_rfl) ⟨rfl,rfl,⟨(.c (.s .z) (.c .z .n)),by kernel_rfl,fun _=>rfl,rfl,rfl⟩,⟨?_,?_,trivial⟩,?_⟩
  ·
   intro a_ w_ R_ rest_ vs23 hm hs ht hx
   have hs0:=hs.bare
   refine zSC hs rfl (hm.own (List.mem_append.2 (.inr ((hx 2 (zK 4 _ (by kernel_rfl))).1 _ (List.Mem.head _))))) (.z (.c (.c (.c .n)))) isAgg44 sizeOf44 rfl ?_;clear hs;intro a w hs
   exact wpList_nil ⟨rfl,_,_,hs0,.r,hs,rfl⟩
  ·
   intro a_ w_ R_ rest_ vs23 hm hs ht hx
   have hm0:=hm.mid
   have hs0:=hs.bare
   refine zAe hs rfl rfl .z (.z (.c (.c (.c .n)))) (zJ rfl (zJ rfl (zJ (zL (hm0.del .z)).isSl.one zAb))) sizeOf44 rfl ?_;clear hs;intro a w hs
   exact wpList_nil ⟨rfl,.tuple #[],_,hs0,(.c .r),hs,trivial⟩
  clear hs w a;intro vs23 a w hs hf
  clear hf
  revert a w hs
  refine goE 0 [] [5,4] .n ?_
  intro a w hs;exact zQ8 hs rfl rfl rfl (.s (.s (.s (.s (.s .z))))) (.z (.c (.c (.c .n)))) isAgg44 sizeOf44 (.s (.s (.s (.s (.s (.s .z)))))) .z isAgg26 (.c (.s (.s (.s (.s (.s (.s .z)))))) (.c (.s (.s (.s (.s (.s .z))))) (.c (.s (.s (.s (.s .z)))) (.c (.s (.s (.s .z))) (.c (.s (.s .z)) (.c (.s .z) .n)))))) ⟨_,_,by rw [zVB (by omega) (by show zFE _ _ _ = 0;omega),zI7 hsr,zFp hsr] <;> rfl,fun _=>(zFp hsr).symm,rfl⟩
 refine cl (·.addNil 142 9) ?_
 refine go 3 [0] [70,69,68,5,4] (.c (.s (.s (.s (.s .z)))) .n) ⟨rfl,?_⟩
 intro a w hs;refine zB (v:=.bool (tml (sns l) 0 0)) hs (.c rfl (.c rfl .n)) call115 (zE7 p g _ l most fl gone N 0 0 _ _ ⟨_,_,rfl⟩ _ (hs.mem.keep hp (by simp [zO,blk])) (hs.mem.keep hg (by simp [zO,blk])) (hs.rd0 hu) (hs.mem.keepH hrw (by simp)) ho) rfl ?_
 refine goL 1 [] [72,68,5,4] .n ?_
 intro a w hs;refine zA6 (us:=[pt g2 0]) hs rfl (.c rfl (.c rfl .n)) rfl call112 (.c (.s (.s .z)) .n) (zEh (!(tml (sns l) 0 0)) 16 (zFE (zFE (zFE ((zA bs).e) (zDU (sns l) ((zA bs).t)) 12) (stl (sns l) most fl gone ((zA bs).t)) 13) (zIW (sns l) (zA bs).b) 14) g2 _ _ (hs.mem.del (.s (.s .z)))) rfl ?_;clear hs w a;rintro _ _ a w ⟨rfl,rfl⟩ hs
 revert a w hs
 refine goL 0 [] [5,4] .n ?_
 intro a w hs
 refine zS [.l [] [0] [2] [],.l [] [0] [3] [],.s [0] [0] [0] [],.s [1] [0] [1] []] [] hs (.c (.s .z) (.c .z .n)) .n (by kernel_rfl) ⟨rfl,rfl,rfl,rfl,⟨rfl,by kernel_rfl,fun _=>rfl,rfl,rfl,trivial⟩,fun _=>rfl,?_⟩
 refine goE 0 [] [5,4] .n ?_
 intro a w hs;exact zQ8 hs rfl rfl rfl (.s (.s (.s (.s (.s .z))))) (.z (.c (.c (.c .n)))) isAgg44 sizeOf44 (.s (.s (.s (.s (.s (.s .z)))))) .z isAgg26 (.c (.s (.s (.s (.s (.s (.s .z)))))) (.c (.s (.s (.s (.s (.s .z))))) (.c (.s (.s (.s (.s .z)))) (.c (.s (.s (.s .z))) (.c (.s (.s .z)) (.c (.s .z) .n)))))) ⟨default,_,by rw [zNk (by omega) (by show zFE _ _ _ ≠ 0;omega),zKN (by omega)] <;> rfl,fun h=>absurd h (by rw [zNk (by omega) (by show zFE _ _ _ ≠ 0;omega)];show ¬ zFE _ _ _ = 0;omega),rfl⟩
end Go.Proofs.YtemnjodhidlfpaaGreat
/- Walks of accepting: what each function does, over the program of this seat. Printed by a program of this session. -/
namespace Go.Proofs.YtemnjodhidlfpaaGreat
open Tryz
open Go Go.Sx Go.RowKit
set_option linter.unusedVariables false
set_option linter.unusedSimpArgs false
set_option maxRecDepth 4000
set_option maxHeartbeats 1000000

theorem zQU (p g:Nat) (u:Value) (l:List RI) (most:Nat) (fl:Int) (gone:Bool) (N:Nat → Nat) (v:Value) (m:Nat) (bs:List zQ) (w0:World) (hM:∀ h ∈ [blk p [pt g 0,nI most,nI (N 0),nI (N 1),nI (N 2),nI (N 3),nI (N 4),nI (N 5),nI (N 6),nI (N 7),nI (N 8),nI (N 9),nI (N 10),nI (N 11),nI (N 12),nI (N 13),nI (N 14),nI (N 15),nI (N 16),nI (N 17)] 127,blk g [u,nI most,zI fl,.bool (gone)] 186,row u 193 4 l.length (l.flatMap riV),rws 142 l],h.p w0) (hnd:(zO [blk p [pt g 0,nI most,nI (N 0),nI (N 1),nI (N 2),nI (N 3),nI (N 4),nI (N 5),nI (N 6),nI (N 7),nI (N 8),nI (N 9),nI (N 10),nI (N 11),nI (N 12),nI (N 13),nI (N 14),nI (N 15),nI (N 16),nI (N 17)] 127,blk g [u,nI most,zI fl,.bool (gone)] 186,row u 193 4 l.length (l.flatMap riV),rws 142 l]).Nodup) (ho:Oks (sns l) most) (hN:∀ i,N i ≤ 1000000) (hb:Rd w0 (zO [blk p [pt g 0,nI most,nI (N 0),nI (N 1),nI (N 2),nI (N 3),nI (N 4),nI (N 5),nI (N 6),nI (N 7),nI (N 8),nI (N 9),nI (N 10),nI (N 11),nI (N 12),nI (N 13),nI (N 14),nI (N 15),nI (N 16),nI (N 17)] 127,blk g [u,nI most,zI fl,.bool (gone)] 186,row u 193 4 l.length (l.flatMap riV),rws 142 l]) v 1 m (zC bs)):Calls Tryz.prog 36 #[pt p 0,v] w0 (Ret w0 (zO [blk p [pt g 0,nI most,nI (N 0),nI (N 1),nI (N 2),nI (N 3),nI (N 4),nI (N 5),nI (N 6),nI (N 7),nI (N 8),nI (N 9),nI (N 10),nI (N 11),nI (N 12),nI (N 13),nI (N 14),nI (N 15),nI (N 16),nI (N 17)] 127,blk g [u,nI most,zI fl,.bool (gone)] 186,row u 193 4 l.length (l.flatMap riV),rws 142 l]) fun z Nn=>z = .tuple #[zI (zI0 (sns l) most fl gone (zA bs)),nI (zBi (sns l) most fl gone (zA bs))] ∧ ∃ (u':Value) (l':List RI),(zC4 most ⟨sns l,fl,gone,N⟩ (zA bs)).l = sns l' ∧ Nn = [blk p [pt g 0,nI most,nI (((zC4 most ⟨sns l,fl,gone,N⟩ (zA bs)).n) 0),nI (((zC4 most ⟨sns l,fl,gone,N⟩ (zA bs)).n) 1),nI (((zC4 most ⟨sns l,fl,gone,N⟩ (zA bs)).n) 2),nI (((zC4 most ⟨sns l,fl,gone,N⟩ (zA bs)).n) 3),nI (((zC4 most ⟨sns l,fl,gone,N⟩ (zA bs)).n) 4),nI (((zC4 most ⟨sns l,fl,gone,N⟩ (zA bs)).n) 5),nI (((zC4 most ⟨sns l,fl,gone,N⟩ (zA bs)).n) 6),nI (((zC4 most ⟨sns l,fl,gone,N⟩ (zA bs)).n) 7),nI (((zC4 most ⟨sns l,fl,gone,N⟩ (zA bs)).n) 8),nI (((zC4 most ⟨sns l,fl,gone,N⟩ (zA bs)).n) 9),nI (((zC4 most ⟨sns l,fl,gone,N⟩ (zA bs)).n) 10),nI (((zC4 most ⟨sns l,fl,gone,N⟩ (zA bs)).n) 11),nI (((zC4 most ⟨sns l,fl,gone,N⟩ (zA bs)).n) 12),nI (((zC4 most ⟨sns l,fl,gone,N⟩ (zA bs)).n) 13),nI (((zC4 most ⟨sns l,fl,gone,N⟩ (zA bs)).n) 14),nI (((zC4 most ⟨sns l,fl,gone,N⟩ (zA bs)).n) 15),nI (((zC4 most ⟨sns l,fl,gone,N⟩ (zA bs)).n) 16),nI (((zC4 most ⟨sns l,fl,gone,N⟩ (zA bs)).n) 17)] 127,blk g [u',nI most,zI ((zC4 most ⟨sns l,fl,gone,N⟩ (zA bs)).floor),.bool ((zC4 most ⟨sns l,fl,gone,N⟩ (zA bs)).gone)] 186,row u' 193 4 l'.length (l'.flatMap riV),rws 142 l']):=by
 have hbl:bs.length = m:=by have:=hb.len;simpa [zC] using this
 have hbe:m ≤ maxLen:=hb.le
 simp only [maxLen] at hbe
 have hrw:(rws 142 l).p w0:=hM _ (by simp)
 have hiv:=zEo hrw
 have hsr:=ho.srt
 have hll:l.length ≤ most:=by have:=ho.le;rw [zAH] at this;omega
 have hm64:=ho.m64
 have hm1:=ho.m1
 have he17:=zWP (l:=sns l) (most:=most) (fl:=fl) (gone:=gone) (bs:=bs)
 have hN0:=hN 0
 have hN1:=hN 1
 have hN2:=hN 2
 have hN3:=hN 3
 have hN4:=hN 4
 have hN5:=hN 5
 have hN6:=hN 6
 have hN7:=hN 7
 have hN8:=hN 8
 have hN9:=hN 9
 have hN10:=hN 10
 have hN11:=hN 11
 have hN12:=hN 12
 have hN13:=hN 13
 have hN14:=hN 14
 have hN15:=hN 15
 have hN16:=hN 16
 have hN17:=hN 17
 refine zG (F0:=[(0,pt p 0),(1,v)]) func36 rfl rfl rfl (.c (.c .n)) (Mem.start hM rfl hnd) ?_
 refine go 7 [] [12,11,0] .n ?_
 intro a w hs;refine zM hs (.c rfl (.c rfl .n)) call75 .n (zWI p g _ l most fl gone N _ _ bs _ (hs.mem.del .z) (hs.mem.del (.s .z)) (zL (hs.mem.del (.s (.s .z)))) (hs.mem.del (.s (.s (.s .z)))) ho (hs.rd0 hb)) rfl ?_;clear hs w a;rintro _ _ a w ⟨X1,v2,rfl,hX3,rfl⟩ hs
 revert a w hs
 refine goL 4 [] [6,15,14,0] .n (fun g4=>?_)
 intro a w hs;refine zAe hs rfl rfl .z (.z (.c (.c (.c .n)))) (zJ rfl (zJ rfl (zJ (zL (hs.mem.del (.s .z))).isSl.one zAb))) sizeOf44 rfl ?_
 refine goL 3 [] [17,7,6,0] .n ?_
 refine ifG rfl (fun c_5=>?_) (fun c_5=>?_)
 ·
  have h0:(zBi (sns l) most fl gone (zA bs)) = 0:=by omega
  have hXe:=hX3 h0;subst hXe
  have hlp:=zXD h0;have hA0:=(zPe h0).2.2.2.2.1;have hAr:=zT1 hA0
  refine cl (·.sub (F':=[(6,pt g4 0),(0,pt p 0)]) (.c rfl (.c rfl .n))) ?_
  intro a w hs
  refine zIB (Γ:=Value) (M0:=[blk g4 [zI ((zAZ (sns l) (zA bs)).t),zI ((zAZ (sns l) (zA bs)).tm),v2] 44,row v2 142 9 ((zAZ (sns l) (zA bs)).l.length) ((zAZ (sns l) (zA bs)).l.flatMap zBN),blk p [pt g 0,nI most,nI (N 0),nI (N 1),nI (N 2),nI (N 3),nI (N 4),nI (N 5),nI (N 6),nI (N 7),nI (N 8),nI (N 9),nI (N 10),nI (N 11),nI (N 12),nI (N 13),nI (N 14),nI (N 15),nI (N 16),nI (N 17)] 127,rws 142 l]) (Ds:=fun gs=>[Pv 0 (pt p 0),Pv 1 (pt p 0),Pv 2 (pt p 0),Pv 3 (pt g 0),Pv 4 (pt g4 0),Pv 5 (zI ((zAZ (sns l) (zA bs)).t)),Pv 6 (.agg #[zI ((zAZ (sns l) (zA bs)).t),zI ((zAZ (sns l) (zA bs)).tm),v2]),⟨[],[],[],fun vs6=>vs6 7 = .agg #[zI ((zAZ (sns l) (zA bs)).t),zI ((zAZ (sns l) (zA bs)).tm),(zGD 2 (vs6 7))],fun vs6=>[row (zGD 2 (vs6 7)) 142 9 (((zAZ (sns l) (zA bs)).l).length) (((zAZ (sns l) (zA bs)).l).flatMap zBN)],none⟩,⟨[row u 193 4 l.length (l.flatMap riV),blk g [u,nI most,zI fl,.bool (gone)] 186],[],[7],fun vs6=>vs6 8 = .tuple #[zI (zG9 l most (⟨(zAZ (sns l) (zA bs)).t,(zAZ (sns l) (zA bs)).tm,((zAZ (sns l) (zA bs)).l),(zGD 2 (vs6 7))⟩ : RI)),.bool (zHI l most (⟨(zAZ (sns l) (zA bs)).t,(zAZ (sns l) (zA bs)).tm,((zAZ (sns l) (zA bs)).l),(zGD 2 (vs6 7))⟩ : RI)),zI 0],fun vs6=>[blk g [(gs 8),nI most,zI (zIQ l most fl (⟨(zAZ (sns l) (zA bs)).t,(zAZ (sns l) (zA bs)).tm,((zAZ (sns l) (zA bs)).l),(zGD 2 (vs6 7))⟩ : RI)),.bool (zIO l most gone (⟨(zAZ (sns l) (zA bs)).t,(zAZ (sns l) (zA bs)).tm,((zAZ (sns l) (zA bs)).l),(zGD 2 (vs6 7))⟩ : RI))] 186,row (gs 8) 193 4 ((zGF l most (⟨(zAZ (sns l) (zA bs)).t,(zAZ (sns l) (zA bs)).tm,((zAZ (sns l) (zA bs)).l),(zGD 2 (vs6 7))⟩ : RI)).length) ((zGF l most (⟨(zAZ (sns l) (zA bs)).t,(zAZ (sns l) (zA bs)).tm,((zAZ (sns l) (zA bs)).l),(zGD 2 (vs6 7))⟩ : RI)).flatMap riV)],none⟩,⟨[],[],[7],fun vs6=>vs6 9 = .tuple #[zI (zG9 l most (⟨(zAZ (sns l) (zA bs)).t,(zAZ (sns l) (zA bs)).tm,((zAZ (sns l) (zA bs)).l),(zGD 2 (vs6 7))⟩ : RI)),.bool (zHI l most (⟨(zAZ (sns l) (zA bs)).t,(zAZ (sns l) (zA bs)).tm,((zAZ (sns l) (zA bs)).l),(zGD 2 (vs6 7))⟩ : RI)),zI 0],fun vs6=>[],none⟩,⟨[],[],[7],fun vs6=>vs6 10 = zI (zG9 l most (⟨(zAZ (sns l) (zA bs)).t,(zAZ (sns l) (zA bs)).tm,((zAZ (sns l) (zA bs)).l),(zGD 2 (vs6 7))⟩ : RI)),fun vs6=>[],none⟩,⟨[],[],[7],fun vs6=>vs6 11 = .bool (zHI l most (⟨(zAZ (sns l) (zA bs)).t,(zAZ (sns l) (zA bs)).tm,((zAZ (sns l) (zA bs)).l),(zGD 2 (vs6 7))⟩ : RI)),fun vs6=>[],none⟩,Pv 12 (zI 0),Pv 13 (zI 0)]) [[],[],[],[],[],[],[],[],[8],[],[],[],[],[]] (.slice none 0 0:Value) (by kernel_rfl) hs rfl (.c (.s (.s (.s (.s .z)))) (.c (.s (.s (.s .z))) .n)) (by kernel_rfl) (fun _=>by kernel_rfl) (fun _ _=>rfl) (fun us_ us'_=>(.c (fun _=>rfl) (.c (fun _=>rfl) (.c (fun _=>rfl) (.c (fun _=>rfl) (.c (fun _=>rfl) (.c (fun _=>rfl) (.c (fun _=>rfl) (.c (fun _=>rfl) (.c (fun h=>by have e8:=h 8 (by simp);simp only [e8]) (.c (fun _=>rfl) (.c (fun _=>rfl) (.c (fun _=>rfl) (.c (fun _=>rfl) (.c (fun _=>rfl) .n))))))))))))))) (by kernel_rfl) rfl (by kernel_rfl) (fun gs=>?_) ?_
  ·
   refine (.c ?_ (.c ?_ (.c ?_ (.c ?_ (.c ?_ (.c ?_ (.c ?_ (.c ?_ (.g ?_ (.c ?_ (.c ?_ (.c ?_ (.c ?_ (.c ?_ .n))))))))))))))
   · exact zAm (m:=14) .n (fun hm0 hm hx=>.n) (by kernel_rfl) (by kernel_rfl) rfl
   · exact zAm (m:=14) (.c (k:=0) (by kernel_rfl) rfl rfl .n) (fun hm0 hm hx=>.n) (by kernel_rfl) (by kernel_rfl) rfl
   · exact zAm (m:=14) (.c (k:=1) (by kernel_rfl) rfl rfl .n) (fun hm0 hm hx=>.n) (by kernel_rfl) (by kernel_rfl) rfl
   · exact zAm (m:=14) (.c (k:=2) (by kernel_rfl) rfl rfl .n) (fun hm0 hm hx=>(.c (hm0.del (.s (.s .z))))) (by kernel_rfl) (by kernel_rfl) rfl
   · exact zAm (m:=14) .n (fun hm0 hm hx=>.n) (by kernel_rfl) (by kernel_rfl) rfl
   · exact zAm (m:=14) (.c (k:=4) (by kernel_rfl) rfl rfl .n) (fun hm0 hm hx=>(.c (hm0.del .z))) (by kernel_rfl) (by kernel_rfl) rfl
   · exact zAm (m:=14) .n (fun hm0 hm hx=>(.c (hm0.del .z))) (by kernel_rfl) (by kernel_rfl) rfl
   ·
    intro a_ w_ R_ rest_ vs6 hm hs ht hx
    have hm0:=hm.mid
    replace hs:=hs.lrn (ht 6 (zK 14 _ (by kernel_rfl))) rfl rfl
    have hs0:=hs.bare
    refine zM hs (.c rfl .n) call64 .n (zRe ((zAZ (sns l) (zA bs)).t) ((zAZ (sns l) (zA bs)).tm) _ ((zAZ (sns l) (zA bs)).l) _ (zL (hm0.del (.s .z))) (by omega)) rfl ?_;clear hs;rintro _ _ a w ⟨v7,rfl,rfl⟩ hs
    exact wpList_nil ⟨rfl,_,_,hs0,(.c .r),hs,rfl⟩
   ·
    intro a_ w_ R_ rest_ vs6 hm hs ht hx
    replace hs:St _ _ _ (zO [row u 193 4 l.length (l.flatMap riV),blk g [u,nI most,zI fl,.bool (gone)] 186]) [row u 193 4 l.length (l.flatMap riV),blk g [u,nI most,zI fl,.bool (gone)] 186] _ _:=hs
    have hm0:=hm.mid
    replace hs:=hs.lrn (ht 3 (zK 14 _ (by kernel_rfl))) rfl rfl
    replace hs:=hs.lrn (ht 5 (zK 14 _ (by kernel_rfl))) rfl rfl
    have t7:=ht 7 (zK 14 _ (by kernel_rfl))
    have e7:_ = some (vs6 7):=t7.val rfl
    rw [show vs6 7 = .agg #[zI ((zAZ (sns l) (zA bs)).t),zI ((zAZ (sns l) (zA bs)).tm),(zGD 2 (vs6 7))] from t7.2.1] at e7
    replace hs:=hs.learn e7
    have hs0:=hs.bare
    refine zM hs (.c rfl (.c rfl (.c rfl .n))) call76 (.c .z (.c .z .n)) (zOb g u l most fl gone (⟨(zAZ (sns l) (zA bs)).t,(zAZ (sns l) (zA bs)).tm,((zAZ (sns l) (zA bs)).l),(zGD 2 (vs6 7))⟩ : RI) _ (hs.mem.del .z) (hs.mem.del (.s .z)) (hs.mem.ndX (.c .z (.c .z .n))) hsr hll hm64 hm1 hiv (zL (hm.own (List.mem_append.2 (.inr ((ht 7 (zK 14 _ (by kernel_rfl))).2.2 (zHp (n:=14) (by kernel_rfl)) _ (List.Mem.head _)))))).isSl hlp.1 hlp.2.1 hlp.2.2) rfl ?_;clear hs;rintro _ _ a w ⟨v8,rfl,rfl⟩ hs
    exact wpList_nil ⟨rfl,(v8),_,_,hs0,(.c (.c (.c .r))),hs,rfl⟩
   ·
    intro a_ w_ R_ rest_ vs6 hm hs ht hx
    have hm0:=hm.mid
    have t8:=ht 8 (zK 14 _ (by kernel_rfl))
    have e8:_ = some (vs6 8):=t8.val rfl
    rw [show vs6 8 = .tuple #[zI (zG9 l most (⟨(zAZ (sns l) (zA bs)).t,(zAZ (sns l) (zA bs)).tm,((zAZ (sns l) (zA bs)).l),(zGD 2 (vs6 7))⟩ : RI)),.bool (zHI l most (⟨(zAZ (sns l) (zA bs)).t,(zAZ (sns l) (zA bs)).tm,((zAZ (sns l) (zA bs)).l),(zGD 2 (vs6 7))⟩ : RI)),zI 0] from t8.2.1] at e8
    replace hs:=hs.learn e8
    have hs0:=hs.bare
    refine zFl hs rfl rfl ?_;clear hs;intro a w hs
    exact wpList_nil ⟨rfl,_,_,hs0,(.c .r),hs,rfl⟩
   ·
    intro a_ w_ R_ rest_ vs6 hm hs ht hx
    have hm0:=hm.mid
    have t9:=ht 9 (zK 14 _ (by kernel_rfl))
    have e9:_ = some (vs6 9):=t9.val rfl
    rw [show vs6 9 = .tuple #[zI (zG9 l most (⟨(zAZ (sns l) (zA bs)).t,(zAZ (sns l) (zA bs)).tm,((zAZ (sns l) (zA bs)).l),(zGD 2 (vs6 7))⟩ : RI)),.bool (zHI l most (⟨(zAZ (sns l) (zA bs)).t,(zAZ (sns l) (zA bs)).tm,((zAZ (sns l) (zA bs)).l),(zGD 2 (vs6 7))⟩ : RI)),zI 0] from t9.2.1] at e9
    replace hs:=hs.learn e9
    have hs0:=hs.bare
    refine zG1 hs rfl .z rfl ?_;clear hs;intro a w hs
    exact wpList_nil ⟨rfl,_,_,hs0,(.c .r),hs,rfl⟩
   ·
    intro a_ w_ R_ rest_ vs6 hm hs ht hx
    have hm0:=hm.mid
    have t9:=ht 9 (zK 14 _ (by kernel_rfl))
    have e9:_ = some (vs6 9):=t9.val rfl
    rw [show vs6 9 = .tuple #[zI (zG9 l most (⟨(zAZ (sns l) (zA bs)).t,(zAZ (sns l) (zA bs)).tm,((zAZ (sns l) (zA bs)).l),(zGD 2 (vs6 7))⟩ : RI)),.bool (zHI l most (⟨(zAZ (sns l) (zA bs)).t,(zAZ (sns l) (zA bs)).tm,((zAZ (sns l) (zA bs)).l),(zGD 2 (vs6 7))⟩ : RI)),zI 0] from t9.2.1] at e9
    replace hs:=hs.learn e9
    have hs0:=hs.bare
    refine zG1 hs rfl (.s .z) rfl ?_;clear hs;intro a w hs
    exact wpList_nil ⟨rfl,_,_,hs0,(.c .r),hs,rfl⟩
   ·
    intro a_ w_ R_ rest_ vs6 hm hs ht hx
    have hm0:=hm.mid
    have t9:=ht 9 (zK 14 _ (by kernel_rfl))
    have e9:_ = some (vs6 9):=t9.val rfl
    rw [show vs6 9 = .tuple #[zI (zG9 l most (⟨(zAZ (sns l) (zA bs)).t,(zAZ (sns l) (zA bs)).tm,((zAZ (sns l) (zA bs)).l),(zGD 2 (vs6 7))⟩ : RI)),.bool (zHI l most (⟨(zAZ (sns l) (zA bs)).t,(zAZ (sns l) (zA bs)).tm,((zAZ (sns l) (zA bs)).l),(zGD 2 (vs6 7))⟩ : RI)),zI 0] from t9.2.1] at e9
    replace hs:=hs.learn e9
    have hs0:=hs.bare
    refine zG1 hs rfl (.s (.s .z)) rfl ?_;clear hs;intro a w hs
    exact wpList_nil ⟨rfl,_,_,hs0,(.c .r),hs,rfl⟩
   exact zAm (m:=14) (.c (k:=12) (by kernel_rfl) rfl rfl .n) (fun hm0 hm hx=>.n) (by kernel_rfl) (by kernel_rfl) rfl
  clear hs w a;intro a w vs6 gs hs hf
  replace hs:St _ _ _ _ [blk g4 [zI ((zAZ (sns l) (zA bs)).t),zI ((zAZ (sns l) (zA bs)).tm),v2] 44,row v2 142 9 ((zAZ (sns l) (zA bs)).l.length) ((zAZ (sns l) (zA bs)).l.flatMap zBN),blk p [pt g 0,nI most,nI (N 0),nI (N 1),nI (N 2),nI (N 3),nI (N 4),nI (N 5),nI (N 6),nI (N 7),nI (N 8),nI (N 9),nI (N 10),nI (N 11),nI (N 12),nI (N 13),nI (N 14),nI (N 15),nI (N 16),nI (N 17)] 127,rws 142 l,row (zGD 2 (vs6 7)) 142 9 (((zAZ (sns l) (zA bs)).l).length) (((zAZ (sns l) (zA bs)).l).flatMap zBN),blk g [(gs 8),nI most,zI (zIQ l most fl (⟨(zAZ (sns l) (zA bs)).t,(zAZ (sns l) (zA bs)).tm,((zAZ (sns l) (zA bs)).l),(zGD 2 (vs6 7))⟩ : RI)),.bool (zIO l most gone (⟨(zAZ (sns l) (zA bs)).t,(zAZ (sns l) (zA bs)).tm,((zAZ (sns l) (zA bs)).l),(zGD 2 (vs6 7))⟩ : RI))] 186,row (gs 8) 193 4 ((zGF l most (⟨(zAZ (sns l) (zA bs)).t,(zAZ (sns l) (zA bs)).tm,((zAZ (sns l) (zA bs)).l),(zGD 2 (vs6 7))⟩ : RI)).length) ((zGF l most (⟨(zAZ (sns l) (zA bs)).t,(zAZ (sns l) (zA bs)).tm,((zAZ (sns l) (zA bs)).l),(zGD 2 (vs6 7))⟩ : RI)).flatMap riV)] _ _:=hs
  obtain ⟨e13,q13⟩:=hf 13 (by decide)
  replace e13:_ = some (vs6 13):=e13.val rfl
  rw [show vs6 13 = zI 0 from q13] at e13
  replace hs:=hs.learn e13;clear e13 q13
  generalize (gs 8) = v9 at hs
  generalize zGD 2 (vs6 7) = v10 at hs
  clear hf
  revert a w hs
  refine goE 0 [] [7,6,0] .n ?_
  intro a w hs
  refine zS [.p [] [],.p [] [],.p [0] [],.p [2] [],.p [3,1] [],.l [4] [0] [10] [],.p [5] [],.p [0] [],.p [7] [],.p [8,1] [],.s [9,6] [0] [0] []] [] hs (.c (.s (.s .z)) .n) .n (by kernel_rfl) ⟨rfl,(by have:=hN (zBi (sns l) most fl gone (zA bs));omega),rfl,⟨rfl,by kernel_rfl,fun _=>rfl,rfl,rfl,trivial⟩,fun _=>rfl,?_⟩
  refine zao 6 2 [] [42,7,6] .n ?_
  refine go 5 [0] [5,4] (.c .z .n) ⟨rfl,?_⟩
  refine cl (·.rwsLay (most:=most) (x:=(⟨(zAZ (sns l) (zA bs)).t,(zAZ (sns l) (zA bs)).tm,((zAZ (sns l) (zA bs)).l),v10⟩ : RI)) (.c (.s (.s .z)) (.c (.s (.s .z)) .n))) ?_
  refine cl (·.drop (.c (.s (.s .z)) (.c (.s .z) .n))) ?_
  refine cl (·.reorder (.c (.s (.s (.s .z))) (.c (.s .z) (.c (.s .z) (.c .z .n))))) ?_
  refine cl (·.reblk .z (cs':=[pt g 0,nI most,nI (zBV N 0 0),nI (zBV N 0 1),nI (zBV N 0 2),nI (zBV N 0 3),nI (zBV N 0 4),nI (zBV N 0 5),nI (zBV N 0 6),nI (zBV N 0 7),nI (zBV N 0 8),nI (zBV N 0 9),nI (zBV N 0 10),nI (zBV N 0 11),nI (zBV N 0 12),nI (zBV N 0 13),nI (zBV N 0 14),nI (zBV N 0 15),nI (zBV N 0 16),nI (zBV N 0 17)]) rfl) ?_
  obtain ⟨hT_,hS_⟩:=zUK (N:=N) v10 h0
  intro a w hs;exact zBO hs rfl rfl rfl ⟨by rw [hT_,h0];rfl,_,zGF l most (⟨(zAZ (sns l) (zA bs)).t,(zAZ (sns l) (zA bs)).tm,((zAZ (sns l) (zA bs)).l),v10⟩ : RI),by rw [hS_],by rw [hS_]⟩
 refine go 0 [] [7,6,0] .n ?_
 intro a w hs
 refine zAS [.p [] [],.p [] [],.p [0] [],.p [2] [],.v [3,1] (pt p (2 + (zBi (sns l) most fl gone (zA bs)))),.y [4] (nI (N (zBi (sns l) most fl gone (zA bs)))) [] [] [] fun vs12=>[],.p [5] [],.p [0] [],.p [7] [],.v [8,1] (pt p (2 + (zBi (sns l) most fl gone (zA bs)))),.x [9,6] ⟨[blk p [pt g 0,nI most,nI (N 0),nI (N 1),nI (N 2),nI (N 3),nI (N 4),nI (N 5),nI (N 6),nI (N 7),nI (N 8),nI (N 9),nI (N 10),nI (N 11),nI (N 12),nI (N 13),nI (N 14),nI (N 15),nI (N 16),nI (N 17)] 127],[],[],fun vs12=>True,fun vs12=>[blk p [pt g 0,nI most,nI (zBV N (zBi (sns l) most fl gone (zA bs)) 0),nI (zBV N (zBi (sns l) most fl gone (zA bs)) 1),nI (zBV N (zBi (sns l) most fl gone (zA bs)) 2),nI (zBV N (zBi (sns l) most fl gone (zA bs)) 3),nI (zBV N (zBi (sns l) most fl gone (zA bs)) 4),nI (zBV N (zBi (sns l) most fl gone (zA bs)) 5),nI (zBV N (zBi (sns l) most fl gone (zA bs)) 6),nI (zBV N (zBi (sns l) most fl gone (zA bs)) 7),nI (zBV N (zBi (sns l) most fl gone (zA bs)) 8),nI (zBV N (zBi (sns l) most fl gone (zA bs)) 9),nI (zBV N (zBi (sns l) most fl gone (zA bs)) 10),nI (zBV N (zBi (sns l) most fl gone (zA bs)) 11),nI (zBV N (zBi (sns l) most fl gone (zA bs)) 12),nI (zBV N (zBi (sns l) most fl gone (zA bs)) 13),nI (zBV N (zBi (sns l) most fl gone (zA bs)) 14),nI (zBV N (zBi (sns l) most fl gone (zA bs)) 15),nI (zBV N (zBi (sns l) most fl gone (zA bs)) 16),nI (zBV N (zBi (sns l) most fl gone (zA bs)) 17)] 127],none⟩] [] hs .n (.c (.s (.s .z)) .n) .n (by kernel_rfl) ⟨fun _ _ _ _ hm hs K=>zRA (j:=zBi (sns l) most fl gone (zA bs)) hs rfl rfl underlying54 (by omega) sizeOf3 rfl (vk K),(by have:=hN (zBi (sns l) most fl gone (zA bs));omega),fun _ _ _ _ hm hs K=>zRA (j:=zBi (sns l) most fl gone (zA bs)) hs rfl rfl underlying54 (by omega) sizeOf3 rfl (vk K),⟨(.c .z .n),by kernel_rfl,fun _=>rfl,rfl,rfl⟩,⟨?_,?_,trivial⟩,?_⟩
 ·
  intro a_ w_ R_ rest_ vs12 hm hs ht hx
  have hs0:=hs.bare
  refine zJr (v:=nI (N (zBi (sns l) most fl gone (zA bs)))) hs rfl (hm.own (List.mem_append.2 (.inr ((hx 10 (zK 11 _ (by kernel_rfl))).1 _ (List.Mem.head _))))) (zX2 (by omega)) isAgg3 rfl ?_;clear hs;intro a w hs
  exact wpList_nil ⟨rfl,_,_,hs0,(.c .r),hs,rfl⟩
 ·
  intro a_ w_ R_ rest_ vs12 hm hs ht hx
  have hs0:=hs.bare
  refine zP1 (cs':=[pt g 0,nI most,nI (zBV N (zBi (sns l) most fl gone (zA bs)) 0),nI (zBV N (zBi (sns l) most fl gone (zA bs)) 1),nI (zBV N (zBi (sns l) most fl gone (zA bs)) 2),nI (zBV N (zBi (sns l) most fl gone (zA bs)) 3),nI (zBV N (zBi (sns l) most fl gone (zA bs)) 4),nI (zBV N (zBi (sns l) most fl gone (zA bs)) 5),nI (zBV N (zBi (sns l) most fl gone (zA bs)) 6),nI (zBV N (zBi (sns l) most fl gone (zA bs)) 7),nI (zBV N (zBi (sns l) most fl gone (zA bs)) 8),nI (zBV N (zBi (sns l) most fl gone (zA bs)) 9),nI (zBV N (zBi (sns l) most fl gone (zA bs)) 10),nI (zBV N (zBi (sns l) most fl gone (zA bs)) 11),nI (zBV N (zBi (sns l) most fl gone (zA bs)) 12),nI (zBV N (zBi (sns l) most fl gone (zA bs)) 13),nI (zBV N (zBi (sns l) most fl gone (zA bs)) 14),nI (zBV N (zBi (sns l) most fl gone (zA bs)) 15),nI (zBV N (zBi (sns l) most fl gone (zA bs)) 16),nI (zBV N (zBi (sns l) most fl gone (zA bs)) 17)]) hs rfl rfl .z (by show 2 + zBi (sns l) most fl gone (zA bs) < 20;omega) (zX9 (by omega)) rfl sizeOf3 ?_;clear hs;intro a w hs
  exact wpList_nil ⟨rfl,.tuple #[],_,hs0,(.c (.c .r)),hs,trivial⟩
 clear hs w a;intro vs12 a w hs hf
 clear hf
 revert a w hs
 refine zao 6 2 [] [42,7,6] .n ?_
 have hb_:(!((((zBi (sns l) most fl gone (zA bs):Nat):Int):Int) == 0)) = true:=by rw [Bool.not_eq_true',beq_eq_false_iff_ne];omega
 intro a w hs;rw [hb_] at hs;clear hb_
 revert a w hs
 refine go 4 [] [5,4] .n ?_
 refine cl (·.drop (.c (.s .z) (.c .z .n))) ?_
 refine cl (·.reorder (.c (.s (.s (.s .z))) (.c .z (.c .z (.c .z .n))))) ?_
 obtain ⟨hT_,hS_⟩:=zWs (N:=N) (rfl:(zBi (sns l) most fl gone (zA bs)) = _) (by omega)
 intro a w hs;exact zBO hs rfl rfl rfl ⟨by rw [hT_],_,l,by rw [hS_],by rw [hS_]⟩
end Go.Proofs.YtemnjodhidlfpaaGreat
/- Walks of what a store tells: what each function does, over the program of this seat. Printed by a program of this session. -/
namespace Go.Proofs.YtemnjodhidlfpaaGreat
open Tryz
open Go Go.Sx Go.RowKit
set_option linter.unusedVariables false
set_option linter.unusedSimpArgs false
set_option maxRecDepth 4000
set_option maxHeartbeats 1000000

def zYd (p g:Nat) (u:Value) (l:List RI) (most:Nat) (fl:Int) (gone:Bool) (N:Nat → Nat):List HA:=[blk p [pt g 0,nI most,nI (N 0),nI (N 1),nI (N 2),nI (N 3),nI (N 4),nI (N 5),nI (N 6),nI (N 7),nI (N 8),nI (N 9),nI (N 10),nI (N 11),nI (N 12),nI (N 13),nI (N 14),nI (N 15),nI (N 16),nI (N 17)] 127,blk g [u,nI most,zI fl,.bool (gone)] 186,row u 193 4 l.length (l.flatMap riV),rws 142 l]
def Sto (p most:Nat) (σ:Stt) (X:HA):Prop:=∃ (g:Nat) (u:Value) (l:List RI),σ.l = sns l ∧ Oks σ.l most ∧ X = zFu (zYd p g u l most σ.floor σ.gone σ.n)
theorem zWp (p g:Nat) (u:Value) (l:List RI) (most:Nat) (fl:Int) (gone:Bool) (N:Nat → Nat) (w0:World) (hp:(blk p [pt g 0,nI most,nI (N 0),nI (N 1),nI (N 2),nI (N 3),nI (N 4),nI (N 5),nI (N 6),nI (N 7),nI (N 8),nI (N 9),nI (N 10),nI (N 11),nI (N 12),nI (N 13),nI (N 14),nI (N 15),nI (N 16),nI (N 17)] 127).p w0) (hg:(blk g [u,nI most,zI fl,.bool (gone)] 186).p w0) (hu:Rd w0 [] u 4 l.length (l.flatMap riV)) (hrw:(rws 142 l).p w0) (ho:Oks (sns l) most):Calls Tryz.prog 61 #[pt p 0] w0 (zAj w0 (nI l.length)):=by
 have hiv:=zEo hrw
 have hsr:=ho.srt
 have hll:l.length ≤ 100000:=by have:=ho.le;have:=ho.m64;rw [zAH] at *;omega
 have hm64:=ho.m64
 refine zG (F0:=[(0,pt p 0)]) func61 rfl rfl rfl (.c .n) (Mem.nil _) ?_
 refine go 7 [] [7] .n ?_
 intro a w hs;refine zX hs rfl (hs.mem.keep hp (by simp [zO,blk])) .z isAgg123 rfl ?_
 intro a w hs;refine zB (v:=nI l.length) hs (.c rfl .n) call101 (zCR g _ l most fl gone _ (hs.rd0 hu) (hs.mem.keep hg (by simp [zO,blk])) hsr (by omega) hiv) rfl ?_
 refine goL 1 [] [2] .n ?_
 intro a w hs;exact fin hs rfl rfl ⟨rfl,rfl⟩
theorem zZs (p g:Nat) (u:Value) (l:List RI) (most:Nat) (fl:Int) (gone:Bool) (N:Nat → Nat) (i:Int) (w0:World) (hp:(blk p [pt g 0,nI most,nI (N 0),nI (N 1),nI (N 2),nI (N 3),nI (N 4),nI (N 5),nI (N 6),nI (N 7),nI (N 8),nI (N 9),nI (N 10),nI (N 11),nI (N 12),nI (N 13),nI (N 14),nI (N 15),nI (N 16),nI (N 17)] 127).p w0) (hg:(blk g [u,nI most,zI fl,.bool (gone)] 186).p w0) (hu:Rd w0 [] u 4 l.length (l.flatMap riV)) (hrw:(rws 142 l).p w0) (ho:Oks (sns l) most):Calls Tryz.prog 62 #[pt p 0,zI i] w0 (Ret w0 [] fun z Nn=>∃ v,z = .tuple #[.agg #[zI (rat l i).t,zI (rat l i).tm,v],nI (zKb (sns l) i)] ∧ Nn = [row v 142 9 ((rat l i).l.length) ((rat l i).l.flatMap zBN)]):=by
 have hiv:=zEo hrw
 have hsr:=ho.srt
 have hll:l.length ≤ 100000:=by have:=ho.le;have:=ho.m64;rw [zAH] at *;omega
 have hm64:=ho.m64
 have hrl:=zW8 ho i
 refine zG (F0:=[(0,pt p 0),(1,zI i)]) func62 rfl rfl rfl (.c (.c .n)) (Mem.nil _) ?_
 refine go 8 [] [15,4,1] .n (fun g1=>?_)
 intro a w hs;refine zX hs rfl (hs.mem.keep hp (by simp [zO,blk])) .z isAgg123 rfl ?_
 refine goL 1 [] [17,16,4] .n ?_
 intro a w hs;refine zB (v:=.tuple #[zI ((rat l i).t),.agg #[zI ((rat l i).t),zI ((rat l i).tm),(rat l i).v],nI (zKb (sns l) i)]) hs (.c rfl (.c rfl .n)) call102 (zHR g _ l most fl gone i _ (hs.rd0 hu) (hs.mem.keep hg (by simp [zO,blk])) hsr (by omega) hiv) rfl ?_
 refine goL 6 [] [7,21,20,4] .n (fun g2=>?_)
 intro a w hs;refine zAe hs rfl rfl .z (.z (.c (.c (.c .n)))) (zJ rfl (zJ rfl (zJ (zEE (hs.mem.keepH hrw (by simp)) (zJ9 l i)).isSl.one zAb))) sizeOf44 rfl ?_
 refine goL 2 [0] [22,8,4] (.c .z .n) ⟨rfl,?_⟩
 intro a w hs;refine zM hs (.c rfl .n) call64 .n (zRe ((rat l i).t) ((rat l i).tm) _ ((rat l i).l) _ (zEE (hs.mem.keepH hrw (by simp)) (zJ9 l i)) (by omega)) rfl ?_;clear hs w a;rintro _ _ a w ⟨v3,rfl,rfl⟩ hs
 revert a w hs
 refine goL 1 [] [24,23,4] .n ?_
 intro a w hs;refine zAe hs rfl rfl (.s (.s .z)) (.z (.c (.c (.c .n)))) (zJ rfl (zJ rfl (zJ (zL (hs.mem.del .z)).isSl.one zAb))) sizeOf44 rfl ?_
 refine goL 1 [] [5,4] .n ?_
 intro a w hs;exact zBd hs rfl rfl rfl .z (.z (.c (.c (.c .n)))) isAgg44 sizeOf44 (.c (.s (.s .z)) (.c .z .n)) ⟨_,rfl,rfl⟩
theorem zWm (p g:Nat) (u:Value) (l:List RI) (most:Nat) (fl:Int) (gone:Bool) (N:Nat → Nat) (k:Int) (w0:World) (hp:(blk p [pt g 0,nI most,nI (N 0),nI (N 1),nI (N 2),nI (N 3),nI (N 4),nI (N 5),nI (N 6),nI (N 7),nI (N 8),nI (N 9),nI (N 10),nI (N 11),nI (N 12),nI (N 13),nI (N 14),nI (N 15),nI (N 16),nI (N 17)] 127).p w0) (hg:(blk g [u,nI most,zI fl,.bool (gone)] 186).p w0) (hu:Rd w0 [] u 4 l.length (l.flatMap riV)) (hrw:(rws 142 l).p w0) (ho:Oks (sns l) most):Calls Tryz.prog 31 #[pt p 0,zI k] w0 (Ret w0 [] fun z Nn=>∃ v,z = .tuple #[.agg #[zI (zAV l k).t,zI (zAV l k).tm,v],.bool (zDU (sns l) k)] ∧ Nn = [row v 142 9 ((zAV l k).l.length) ((zAV l k).l.flatMap zBN)]):=by
 have hiv:=zEo hrw
 have hsr:=ho.srt
 have hll:l.length ≤ 100000:=by have:=ho.le;have:=ho.m64;rw [zAH] at *;omega
 have hm64:=ho.m64
 have hrl:=zND ho k
 refine zG (F0:=[(0,pt p 0),(1,zI k)]) func31 rfl rfl rfl (.c (.c .n)) (Mem.nil _) ?_
 refine go 8 [] [14,4,1] .n (fun g1=>?_)
 intro a w hs;refine zX hs rfl (hs.mem.keep hp (by simp [zO,blk])) .z isAgg123 rfl ?_
 refine goL 1 [] [16,15,4] .n ?_
 intro a w hs;refine zB (v:=.tuple #[.agg #[zI ((zAV l k).t),zI ((zAV l k).tm),(zAV l k).v],.bool (zDU (sns l) k)]) hs (.c rfl (.c rfl .n)) call63 (zGS g _ l most fl gone k _ (hs.rd0 hu) (hs.mem.keep hg (by simp [zO,blk])) hsr (by omega) hiv) rfl ?_
 refine goL 4 [] [6,19,18,4] .n (fun g2=>?_)
 intro a w hs;refine zAe hs rfl rfl .z (.z (.c (.c (.c .n)))) (zJ rfl (zJ rfl (zJ (zEE (hs.mem.keepH hrw (by simp)) (zE8 l k hsr)).isSl.one zAb))) sizeOf44 rfl ?_
 refine goL 2 [0] [20,7,4] (.c .z .n) ⟨rfl,?_⟩
 intro a w hs;refine zM hs (.c rfl .n) call64 .n (zRe ((zAV l k).t) ((zAV l k).tm) _ ((zAV l k).l) _ (zEE (hs.mem.keepH hrw (by simp)) (zE8 l k hsr)) (by omega)) rfl ?_;clear hs w a;rintro _ _ a w ⟨v3,rfl,rfl⟩ hs
 revert a w hs
 refine goL 1 [] [22,21,4] .n ?_
 intro a w hs;refine zAe hs rfl rfl (.s (.s .z)) (.z (.c (.c (.c .n)))) (zJ rfl (zJ rfl (zJ (zL (hs.mem.del .z)).isSl.one zAb))) sizeOf44 rfl ?_
 refine goL 1 [] [5,4] .n ?_
 intro a w hs;exact zBd hs rfl rfl rfl .z (.z (.c (.c (.c .n)))) isAgg44 sizeOf44 (.c (.s (.s .z)) (.c .z .n)) ⟨_,rfl,rfl⟩
theorem zQe (k:Nat) (w0:World) (h:1 ≤ k ∧ k ≤ 64):Calls Tryz.prog 59 #[nI k] w0 (Ret w0 [] fun z N=>∃ g,z = .tuple #[pt g 0,.int .i64 0] ∧ N = [blk g [.slice none 0 0,nI k,zI 0,.bool (false)] 186]):=by
 refine zG (F0:=[(0,nI k)]) func59 rfl rfl rfl (.c .n) (Mem.nil _) ?_
 refine go 4 [] [5,0] .n ?_
 have hb_:(decide (((k:Nat):Int) < 1)) = false:=decide_eq_false (by omega)
 intro a w hs;rw [hb_] at hs;clear hb_
 revert a w hs
 refine go 3 [] [8,6,0] .n ?_
 have hb_:(decide (64 < ((k:Nat):Int))) = false:=decide_eq_false (by omega)
 intro a w hs;rw [hb_] at hs;clear hb_
 revert a w hs
 refine go 7 [0] [3,2] .n (fun g1=>?_)
 intro a w hs;exact zBO hs rfl rfl rfl ⟨_,rfl,rfl⟩
theorem zXm (k:Nat) (w0:World) (hk:1 ≤ k ∧ k ≤ 64):Calls Tryz.prog 25 #[nI k] w0 (Ret w0 [] fun z N=>∃ p g,z = .tuple #[pt p 0,.int .i64 0] ∧ N = zYd p g (.slice none 0 0) [] k 0 false (fun _=>0)):=by
 refine zG (F0:=[(0,nI k)]) func25 rfl rfl rfl (.c .n) (Mem.nil _) ?_
 refine go 3 [] [7,0] .n ?_
 intro a w hs;refine zM hs (.c rfl .n) call59 .n (zQe k _ hk) rfl ?_;clear hs w a;rintro _ _ a w ⟨g1,rfl,rfl⟩ hs
 revert a w hs
 refine goL 14 [0] [3,2] .n (fun g2=>?_)
 refine cl (·.addNil 193 4) ?_
 refine cl (·.addRws 142) ?_
 refine cl (·.reorder (.c (.s (.s .z)) (.c (.s (.s .z)) (.c (.s .z) (.c .z .n))))) ?_
 intro a w hs;exact zBO hs rfl rfl rfl ⟨_,_,rfl,rfl⟩
end Go.Proofs.YtemnjodhidlfpaaGreat
/- Walks of stores, seen from without: what each function does, over the program of this seat. Printed by a program of this session. -/
namespace Go.Proofs.YtemnjodhidlfpaaGreat
open Tryz
open Go Go.Sx Go.RowKit
set_option linter.unusedVariables false
set_option linter.unusedSimpArgs false
set_option maxRecDepth 4000
set_option maxHeartbeats 1000000

theorem zJh {p most:Nat} {σ:Stt} {X:HA} {w:World} (hX:Sto p most σ X) (hp:X.p w):∃ (g:Nat) (u:Value) (l:List RI),σ.l = sns l ∧ Oks (sns l) most ∧ (blk p [pt g 0,nI most,nI (σ.n 0),nI (σ.n 1),nI (σ.n 2),nI (σ.n 3),nI (σ.n 4),nI (σ.n 5),nI (σ.n 6),nI (σ.n 7),nI (σ.n 8),nI (σ.n 9),nI (σ.n 10),nI (σ.n 11),nI (σ.n 12),nI (σ.n 13),nI (σ.n 14),nI (σ.n 15),nI (σ.n 16),nI (σ.n 17)] 127).p w ∧ (blk g [u,nI most,zI σ.floor,.bool (σ.gone)] 186).p w ∧ Rd w [] u 4 l.length (l.flatMap riV) ∧ (rws 142 l).p w:=by
 obtain ⟨g,u,l,hl,ho,rfl⟩:=hX
 refine ⟨g,u,l,hl,hl ▸ ho,hp.1 _ (by simp [zYd]),hp.1 _ (by simp [zYd]),zL (hp.1 (row u 193 4 l.length (l.flatMap riV)) (by simp [zYd])),hp.1 _ (by simp [zYd])⟩
theorem zYl {p most:Nat} {σ:Stt} {X:HA} (hX:Sto p most σ X) (w0:World) (hp:X.p w0):Calls Tryz.prog 61 #[pt p 0] w0 (zAj w0 (nI σ.l.length)):=by
 obtain ⟨g,u,l,hl,ho,h1,h2,h3,h4⟩:=zJh hX hp
 rw [hl,zAH]
 exact zWp p g u l most σ.floor σ.gone σ.n w0 h1 h2 h3 h4 ho
theorem zan {p most:Nat} {σ:Stt} {X:HA} (hX:Sto p most σ X) (i:Int) (w0:World) (hp:X.p w0):Calls Tryz.prog 62 #[pt p 0,.int .i64 i] w0 (Ret w0 [] fun z N=>∃ v,z = .tuple #[.agg #[zI (sat σ.l i).t,zI (sat σ.l i).tm,v],nI (zKb σ.l i)] ∧ N = [row v 142 9 (sat σ.l i).l.length ((sat σ.l i).l.flatMap zBN)]):=by
 obtain ⟨g,u,l,hl,ho,h1,h2,h3,h4⟩:=zJh hX hp
 rw [hl,← zED l i]
 exact zZs p g u l most σ.floor σ.gone σ.n i w0 h1 h2 h3 h4 ho
theorem zU3 {p most:Nat} {σ:Stt} {X:HA} (hX:Sto p most σ X) (k:Int) (w0:World) (hp:X.p w0):Calls Tryz.prog 31 #[pt p 0,.int .i64 k] w0 (Ret w0 [] fun z N=>∃ v,z = .tuple #[.agg #[zI (zBo σ.l k).t,zI (zBo σ.l k).tm,v],.bool (zDU σ.l k)] ∧ N = [row v 142 9 (zBo σ.l k).l.length ((zBo σ.l k).l.flatMap zBN)]):=by
 obtain ⟨g,u,l,hl,ho,h1,h2,h3,h4⟩:=zJh hX hp
 rw [hl,← zJ0 l k ho.srt]
 exact zWm p g u l most σ.floor σ.gone σ.n k w0 h1 h2 h3 h4 ho
theorem zRO {p most:Nat} {σ:Stt} {X:HA} (hX:Sto p most σ X) (hN:∀ i,σ.n i ≤ 1000000) {v:Value} {m:Nat} {bs:List zQ} (w0:World) (hp:X.p w0) (hb:Rd w0 (zO [X]) v 1 m (zC bs)):Calls Tryz.prog 36 #[pt p 0,v] w0 (Ret w0 (zO [X]) fun z Nn=>z = .tuple #[zI (zI0 σ.l most σ.floor σ.gone (zA bs)),nI (zBi σ.l most σ.floor σ.gone (zA bs))] ∧ ∃ X',Nn = [X'] ∧ Sto p most (zC4 most σ (zA bs)) X'):=by
 have hok:=hX.imp fun g h=>h
 obtain ⟨g,u,l,hl,ho,rfl⟩:=hX
 obtain ⟨L,fl,gone,N⟩:=σ
 simp only at hl ho hN
 subst hl
 obtain ⟨hall,hnd⟩:=hp
 rw [zBs] at hb ⊢
 refine (zQU p g u l most fl gone N v m bs w0 hall hnd ho hN hb).mono ?_
 rintro e w' ⟨z,Nn,rfl,⟨rfl,u',l',hl',rfl⟩,hM⟩
 exact ⟨_,_,rfl,⟨rfl,_,rfl,g,u',l',hl',zYN (σ:=⟨sns l,fl,gone,N⟩) ho,rfl⟩,hM.sep⟩
theorem zYo (k:Nat) (w0:World) (hk:1 ≤ k ∧ k ≤ 64):Calls Tryz.prog 25 #[nI k] w0 (Ret w0 [] fun z N=>∃ p X,z = .tuple #[pt p 0,.int .i64 0] ∧ N = [X] ∧ Sto p k zZv X):=by
 refine (zXm k w0 hk).mono ?_
 rintro e w' ⟨z,Nn,rfl,⟨p,g,rfl,rfl⟩,hM⟩
 exact ⟨_,_,rfl,⟨p,_,rfl,rfl,g,_,[],rfl,za1 hk,rfl⟩,hM.sep⟩

end Go.Proofs.YtemnjodhidlfpaaGreat
