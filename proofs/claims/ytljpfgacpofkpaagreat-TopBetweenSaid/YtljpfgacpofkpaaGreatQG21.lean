import Derived.Test.YtljpfgacpofkpaaGreatQG13
import Derived.Test.YtljpfgacpofkpaaGreatQG20
import Derived.Test.YtljpfgacpofkpaaGreatQG14
import Derived.Test.YtljpfgacpofkpaaGreatQSxGrams
import Derived.Test.YtljpfgacpofkpaaGreatQSxRecs
import Derived.Test.YtljpfgacpofkpaaGreatQSxBasB
import Derived.Test.YtljpfgacpofkpaaGreatQWdel
set_option linter.unusedVariables false
set_option linter.unusedSimpArgs false
namespace Go.Proofs.YtljpfgacpofkpaaGreat
open Tryz
open Go Go.Sx Go.RowKit
set_option maxRecDepth 4000
set_option maxHeartbeats 1000000
theorem zOg (c:zQ) (g h:Nat) (v:Value) (m:Nat) (bs:List zQ) (R:Rs) (t tm b:Int) (q:Value) (w0:World) (hb:Rd w0 [g] v 1 m (zD bs)) (hg:(blk g [v,nI ((R).p),nI ((R).e)] 336).p w0) (hh:(blk h [pt g 0,zI t,zI tm,zI b,q] 278).p w0) (hle:R.p≤bs.length):Calls Tryz.prog 228 #[pt h 0,bI c] w0 (Ret w0 [g] λu N=>u = .tuple #[]∧N=[blk g [v,nI ((zEk c bs R).p),nI ((zEk c bs R).e)] 336]):=by
 have hbl:bs.length=m:=by have:=hb.len;simpa [zD] using this
 have hbe:m≤maxLen:=hb.le
 simp only [maxLen] at hbe
 refine zG (F0:=[(0,pt h 0),(1,bI c)]) func228 rfl rfl rfl (.c (.c .n)) (zAq hg) ?_
 refine go 3 [] [6,0,1] .n ?_
 intro a w hs;refine zAC hs rfl (hs.mem.keep hh (by simp [zN,blk,zFx hh hg (by decide)])) .z isAgg275 rfl ?_
 intro a w hs;refine zAf hs (.c rfl .n) call273 (.c .z .n) (zJ6  g _ _ bs R _ (hs.mem.rd1 hb (.c .z .n)) (hs.mem.del .z) (by omega)) rfl ?_
 have hk1:=zEF (bs:=bs) (R:=R) (by omega)
 refine goL 2 [] [10,0] .n ?_
 refine ifG rfl (λc_2=>?_) (λc_2=>?_)
 ·
  refine go 3 [] [13] .n ?_
  intro a w hs;refine zAC hs rfl (hs.mem.keep hh (by simp [zN,blk,zFx hh hg (by decide)])) .z isAgg275 rfl ?_
  intro a w hs;refine zAf hs (.c rfl (.c rfl .n)) call231 (.c .z .n) (zDp 7 g _ _ bs ((zH bs R).2) _ (hs.mem.rd1 hb (.c .z .n)) (hs.mem.del .z) (by omega)) rfl ?_
  have hk3:=zBZ (e:=7) (bs:=bs) (R:=((zH bs R).2)) (by omega)
  refine goL 0 [] [] .n ?_
  intro a w hs;exact zIo hs rfl ⟨rfl,by unfold zEk;first | rw [if_neg (by omega)] | rw [if_pos (by omega)]⟩
 refine go 0 [] [] .n ?_
 intro a w hs;exact zIo hs rfl ⟨rfl,by unfold zEk;first | rw [if_neg (by omega)] | rw [if_pos (by omega)]⟩
theorem zSr (g h:Nat) (v:Value) (m:Nat) (bs:List zQ) (R:Rs) (t tm b:Int) (q:Value) (w0:World) (hb:Rd w0 [g] v 1 m (zD bs)) (hg:(blk g [v,nI ((R).p),nI ((R).e)] 336).p w0) (hh:(blk h [pt g 0,zI t,zI tm,zI b,q] 278).p w0) (hle:R.p≤bs.length):Calls Tryz.prog 180 #[pt h 0] w0 (Ret w0 [g] λu N=>u = .tuple #[]∧N=[blk g [v,nI ((zK7 bs R).p),nI ((zK7 bs R).e)] 336]):=by
 have hbl:bs.length=m:=by have:=hb.len;simpa [zD] using this
 have hbe:m≤maxLen:=hb.le
 simp only [maxLen] at hbe
 refine zG (F0:=[(0,pt h 0)]) func180 rfl rfl rfl (.c .n) (zAq hg) ?_
 refine go 1 [] [2,0] .n ?_
 intro a w hs;refine zAf hs (.c rfl (.c rfl .n)) call228 (.c .z .n) (zOg (71#8) g h _ _ bs R t tm b q _ (hs.mem.rd1 hb (.c .z .n)) (hs.mem.del .z) (hs.mem.keep hh (by simp [zN,blk,zFx hh hg (by decide)])) (by omega)) rfl ?_
 have hk1:=zHl (c:=71#8) (bs:=bs) (R:=R) (by omega)
 refine goL 1 [] [4] .n ?_
 intro a w hs;refine zAf hs (.c rfl (.c rfl .n)) call228 (.c .z .n) (zOg (1#8) g h _ _ bs (zEk (71#8) bs R) t tm b q _ (hs.mem.rd1 hb (.c .z .n)) (hs.mem.del .z) (hs.mem.keep hh (by simp [zN,blk,zFx hh hg (by decide)])) (by omega)) rfl ?_
 have hk2:=zHl (c:=1#8) (bs:=bs) (R:=(zEk (71#8) bs R)) (by omega)
 refine goL 0 [] [] .n ?_
 intro a w hs;exact zIo hs rfl ⟨rfl,rfl⟩
theorem zVR (g h:Nat) (v:Value) (m:Nat) (bs:List zQ) (R:Rs) (t tm b:Int) (q:Value) (w0:World) (hb:Rd w0 [g,h] v 1 m (zD bs)) (hg:(blk g [v,nI ((R).p),nI ((R).e)] 336).p w0) (hh:(blk h [pt g 0,zI t,zI tm,zI b,q] 278).p w0) (hle:R.p≤bs.length):Calls Tryz.prog 181 #[pt h 0] w0 (Ret w0 [g,h] λu N=>u = .tuple #[]∧N=[blk g [v,nI (((gTm bs (gT bs R).2).2).p),nI (((gTm bs (gT bs R).2).2).e)] 336,blk h [pt g 0,zI ((gT bs R).1),zI ((gTm bs (gT bs R).2).1),zI b,q] 278]):=by
 have hbl:bs.length=m:=by have:=hb.len;simpa [zD] using this
 have hbe:m≤maxLen:=hb.le
 simp only [maxLen] at hbe
 have hlim:(4294967295#64).toNat=4294967295:=rfl
 refine zG (F0:=[(0,pt h 0)]) func181 rfl rfl rfl (.c .n) (zEM hg hh (by simp [zN,blk,zFx hg hh (by decide)])) ?_
 refine go 5 [0] [6,2,0] (.c (.s .z) .n) ⟨rfl,?_⟩
 intro a w hs;refine zAf hs (.c rfl (.c rfl .n)) call229 (.c (.s .z) .n) (zES (4294967295#64) g _ _ bs R _ (hs.mem.rd1 hb (.c (.s .z) .n)) (hs.mem.del (.s .z)) (by omega)) rfl ?_
 have hk1:=zA8 (X:=4294967295#64) (bs:=bs) (R:=R) (by omega)
 intro a w hs;refine zAV (X:=(zP bs (4294967295#64) R).1) hs rfl rfl underlying252 underlying2 rfl ?_
 refine cl (·.recell (v':=nI ((zP bs 4294967295#64 R).1.toNat)) (Option.some.inj (congrArg (λz=>some (Value.int .i64 z)) (zLO (by omega))))) ?_
 refine goL 9 [0,0] [16,12,0] (.c (.s .z) .n) ⟨rfl,rfl,?_⟩
 intro a w hs;refine zAf hs (.c rfl .n) call230 (.c (.s .z) .n) (zIP  g _ _ bs ((zP bs (4294967295#64) R).2) _ (hs.mem.rd1 hb (.c (.s .z) .n)) (hs.mem.del (.s .z)) (by omega)) rfl ?_
 have hk2:=zDX (bs:=bs) (R:=((zP bs (4294967295#64) R).2)) (by omega)
 refine goL 9 [0,0] [25,0] (.c (.s .z) .n) ⟨rfl,rfl,?_⟩
 intro a w hs;refine zB (v:=.bool (decide (-2305843009213693952≤((zAE bs ((zP bs (4294967295#64) R).2)).1)∧((zAE bs ((zP bs (4294967295#64) R).2)).1)≤2305843009213693952))) hs (.c rfl .n) call199 (zLn ((zAE bs ((zP bs (4294967295#64) R).2)).1) _) rfl ?_
 refine goL 1 [] [27,0] .n ?_
 refine ifG rfl (λc_3=>?_) (λc_3=>?_)
 ·
  refine go 4 [0] [31] (.c .z .n) ⟨rfl,?_⟩
  intro a w hs;refine zAf hs (.c rfl (.c rfl .n)) call231 (.c (.s .z) .n) (zDp 3 g _ _ bs ((zAE bs ((zP bs (4294967295#64) R).2)).2) _ (hs.mem.rd1 hb (.c (.s .z) .n)) (hs.mem.del (.s .z)) (by omega)) rfl ?_
  have hk4:=zBZ (e:=3) (bs:=bs) (R:=((zAE bs ((zP bs (4294967295#64) R).2)).2)) (by omega)
  refine goL 0 [] [] .n ?_
  have hT_:gTm bs (gT bs R).2=((zAE bs ((zP bs (4294967295#64) R).2)).1,(zBo 3 ((zAE bs ((zP bs (4294967295#64) R).2)).2))):=by unfold gTm gT;dsimp only;first | rw [if_pos (by omega)] | rw [if_neg (by omega)]
  intro a w hs;exact zIo hs rfl ⟨rfl,by rw [hT_];rfl⟩
 refine go 0 [] [] .n ?_
 refine cl (·.reorder (.c (.s .z) (.c .z .n))) ?_
 have hT_:gTm bs (gT bs R).2=((zAE bs ((zP bs (4294967295#64) R).2)).1,((zAE bs ((zP bs (4294967295#64) R).2)).2)):=by unfold gTm gT;dsimp only;first | rw [if_pos (by omega)] | rw [if_neg (by omega)]
 intro a w hs;exact zIo hs rfl ⟨rfl,by rw [hT_];rfl⟩
theorem zVL (g h:Nat) (v:Value) (m:Nat) (bs:List zQ) (R:Rs) (t tm b:Int) (q:Value) (w0:World) (hb:Rd w0 [g,h] v 1 m (zD bs)) (hg:(blk g [v,nI ((R).p),nI ((R).e)] 336).p w0) (hh:(blk h [pt g 0,zI t,zI tm,zI b,q] 278).p w0) (hle:R.p≤bs.length) (ht:0≤t∧t≤4294967295):Calls Tryz.prog 182 #[pt h 0] w0 (Ret w0 [g,h] λu N=>u = .tuple #[]∧N=[blk g [v,nI (((gB bs t R).2).p),nI (((gB bs t R).2).e)] 336,blk h [pt g 0,zI t,zI tm,zI ((gB bs t R).1),q] 278]):=by
 have hbl:bs.length=m:=by have:=hb.len;simpa [zD] using this
 have hbe:m≤maxLen:=hb.le
 simp only [maxLen] at hbe
 have hot:=zEI (x:=t) (by omega) (by omega)
 refine zG (F0:=[(0,pt h 0)]) func182 rfl rfl rfl (.c .n) (zEM hg hh (by simp [zN,blk,zFx hg hh (by decide)])) ?_
 refine go 5 [0] [0] (.c (.s .z) .n) ⟨rfl,?_⟩
 intro a w hs
 have hk2:=zA8 (X:=BitVec.ofInt 64 t) (bs:=bs) (R:=R) (by omega)
 refine zAQ [.p [] [],.p [0] [],.p [1] [],.p [2] [0],.p [] [],.p [4] [],.p [5] [],.p [6] [],.p [7] [0],.v [8] (qI (BitVec.ofInt 64 t)),.y [9,3] (qI ((zP bs (BitVec.ofInt 64 t) R).1)) [blk g [v,nI R.p,nI R.e] 336] [] [] λvs1=>[blk g [v,nI (((zP bs (BitVec.ofInt 64 t) R).2).p),nI (((zP bs (BitVec.ofInt 64 t) R).2).e)] 336],.v [10] (nI ((zP bs (BitVec.ofInt 64 t) R).1.toNat)),.p [11] []] [12] hs .n (.c (.s .z) .n) (.c .z .n) (by kernel_rfl) ⟨rfl,rfl,λ_ _ _ _ hm hs K=>zAg hs rfl underlying2 underlying252 rfl (vk K),?_,⟨(.c .z .n),by kernel_rfl,λ_=>rfl,rfl,rfl⟩,⟨?_,trivial⟩,?_⟩
 ·
  intro a_ w_ R_ Q_ hm hs K_
  refine zAV (X:=(zP bs (BitVec.ofInt 64 t) R).1) hs rfl rfl underlying252 underlying2 rfl ?_;clear hs;intro a w hs
  replace hs:=hs.recell (v':=nI ((zP bs (BitVec.ofInt 64 t) R).1.toNat)) (Option.some.inj (congrArg (λz=>some (Value.int .i64 z)) (zLO (by omega))))
  exact wpList_nil (K_ _ _ hs)
 ·
  intro a_ w_ R_ rest_ vs1 hm hs ht hx
  have hs0:=hs.bare
  refine zL hs (.c rfl (.c rfl .n)) call229 (.c .z .n) (zES (BitVec.ofInt 64 t) g _ _ bs R _ (hm.rd1 hb (zC5.app _ _)) (hs.mem.del .z) (by omega)) rfl ?_;clear hs;rintro _ _ a w ⟨rfl,rfl⟩ hs
  have hk2:=zA8 (X:=BitVec.ofInt 64 t) (bs:=bs) (R:=R) (by omega)
  exact wpList_nil ⟨rfl,_,_,hs0,(.c (.c .r)),hs,rfl⟩
 clear hs w a;intro vs1 a w hs hf
 clear hf
 revert a w hs
 refine goE 2 [] [20,2,0] .n ?_
 refine ifG rfl (λc_3=>?_) (λc_3=>?_)
 ·
  refine go 12 [0,0] [] (.c .z .n) ⟨rfl,(by omega),rfl,?_⟩
  refine cl (·.reorder (.c (.s .z) (.c .z .n))) ?_
  intro a w hs;exact zIo hs rfl ⟨rfl,by unfold gB;first | rw [if_pos (by omega)] | rw [if_neg (by omega)]⟩
 refine go 0 [] [] .n ?_
 refine cl (·.reorder (.c (.s .z) (.c .z .n))) ?_
 intro a w hs;exact zIo hs rfl ⟨rfl,by unfold gB;first | rw [if_pos (by omega)] | rw [if_neg (by omega)]⟩
theorem zTh (g h:Nat) (v:Value) (m:Nat) (bs:List zQ) (R:Rs) (t tm b:Int) (w0:World) (hb:Rd w0 [g,h] v 1 m (zD bs)) (hg:(blk g [v,nI ((R).p),nI ((R).e)] 336).p w0) (hh:(blk h [pt g 0,zI t,zI tm,zI b,.slice none 0 0] 278).p w0) (hle:R.p≤bs.length):Calls Tryz.prog 183 #[pt h 0] w0 (Ret w0 [g,h] λu N=>u = .tuple #[]∧∃ v',N=[blk g [v,nI (((zW bs R (gN bs R)).2.2).p),nI (((zW bs R (gN bs R)).2.2).e)] 336,blk h [pt g 0,zI t,zI tm,zI b,v'] 278,row v' 161 9 (zW bs R (gN bs R)).1.length ((zW bs R (gN bs R)).1.flatMap zDv)]):=by
 have hbl:bs.length=m:=by have:=hb.len;simpa [zD] using this
 have hbe:m≤maxLen:=hb.le
 simp only [maxLen] at hbe
 have hgn:gN bs R=(zP bs 128#64 R).1.toNat:=rfl
 have hgm:=zYy bs R
 refine zG (F0:=[(0,pt h 0)]) func183 rfl rfl rfl (.c .n) (zEM hg hh (by simp [zN,blk,zFx hg hh (by decide)])) ?_
 refine go 5 [0] [8,2,0] (.c (.s .z) .n) ⟨rfl,?_⟩
 intro a w hs;refine zAf hs (.c rfl (.c rfl .n)) call229 (.c (.s .z) .n) (zES (128#64) g _ _ bs R _ (hs.mem.rd1 hb (.c (.s .z) .n)) (hs.mem.del (.s .z)) (by omega)) rfl ?_
 have hk1:=zA8 (X:=128#64) (bs:=bs) (R:=R) (by omega)
 refine goL 1 [] [10,9,2,0] .n ?_
 refine cl (·.addNil 161 9) ?_
 refine cl (·.rerow .z (m':=(zW bs R 0).1.length) (xs':=((zW bs R 0).1.flatMap zDv)) (rfl) (rfl)) ?_
 refine cl (·.reblk (.s .z) (cs':=[v,nI ((zW bs R 0).2.2.p),nI ((zW bs R 0).2.2.e)]) rfl) ?_
 refine cl (·.reorder (.c .z (.c (.s .z) (.c .z .n)))) ?_
 intro a w hs;refine zCC (λmm_ a w=>∃ i:Nat,∃ p:Value,mm_=gN bs R-i∧St 38 [(0,pt h 0),(2,zI ((zW bs R i).2.1)),(9,qI ((zP bs (128#64) R).1)),(10,qI (BitVec.ofNat 64 i))] w0 [g,h] [blk g [v,nI (((zW bs R i).2.2).p),nI (((zW bs R i).2.2).e)] 336,blk h [pt g 0,zI t,zI tm,zI b,p] 278,row p 161 9 ((zW bs R i).1.length) ((zW bs R i).1.flatMap zDv)] a w∧i≤gN bs R∧zWO bs i (zW bs R i)∧(gN bs R≤i∨(zW bs R i).2.2.e=0)) ⟨0,.slice none 0 0,rfl,hs.sub (.c rfl (.c rfl (.c rfl (.c rfl .n)))),by omega,zCw hle 0,zTq⟩ ?_
 clear hs w a;rintro mm_ a w ⟨i,p,rfl,hs,hI1_0,hI1_1,hI1_2⟩
 have hip:=hI1_1.p
 have hil:=hI1_1.lo
 have hih:=hI1_1.hi
 have hin:=hI1_1.len
 have hit:(BitVec.ofNat 64 i).toNat=i:=by rw [BitVec.toNat_ofNat];omega
 revert a w hs
 refine go 1 [] [11,0,2,9,10] .n ?_
 refine ifG rfl (λc_2=>?_) (λc_2=>?_)
 ·
  refine go 5 [0] [17,16,0,9,10] (.c (.s .z) .n) ⟨rfl,?_⟩
  intro a w hs;refine zAf hs (.c rfl (.c rfl .n)) call232 (.c (.s .z) .n) (zZd g _ _ bs ((zW bs R i).2.2) ((zW bs R i).2.1) _ (hs.mem.rd1 hb (.c (.s .z) .n)) (hs.mem.del (.s .z)) (by omega) (by omega)) rfl ?_
  have hk3:=zNJ (bs:=bs) (last:=((zW bs R i).2.1)) (R:=((zW bs R i).2.2)) (by omega)
  refine goL 8 [0] [22,3,0,9,10] .n (λg4=>⟨rfl,?_⟩)
  refine ifG rfl (λc_5=>?_) (λc_5=>?_)
  ·
   refine go 0 [] [] .n ?_
   refine cl (·.drop (.c .z .n)) ?_
   have hE_:=zRl (bs:=bs) (R:=R) (i:=i) hle (by omega) (by omega) (by omega)
   intro a w hs;exact zUy hs rfl ⟨rfl,p,by rw [hE_]⟩
  refine go 0 [] [3,0,9,10] .n ?_
  intro a w hs
  refine zAQ [.p [] [],.p [] [],.p [1] [],.p [2] [],.p [3] [],.y [4] p [] [] [] λvs6=>[],.p [] [0],.x [6] ⟨[],[],[],λvs6=>vs6 7 = .slice (some ⟨(zBj (vs6 7)),0,none⟩) 1 1,λvs6=>[blk (zBj (vs6 7)) [zI (((zAM bs ((zW bs R i).2.1) ((zW bs R i).2.2)).1).k),zI (((zAM bs ((zW bs R i).2.1) ((zW bs R i).2.2)).1).id),zI (((zAM bs ((zW bs R i).2.1) ((zW bs R i).2.2)).1).p0),zI (((zAM bs ((zW bs R i).2.1) ((zW bs R i).2.2)).1).p1),zI (((zAM bs ((zW bs R i).2.1) ((zW bs R i).2.2)).1).p2),zI (((zAM bs ((zW bs R i).2.1) ((zW bs R i).2.2)).1).v0),zI (((zAM bs ((zW bs R i).2.1) ((zW bs R i).2.2)).1).v1),zI (((zAM bs ((zW bs R i).2.1) ((zW bs R i).2.2)).1).v2),.int .u16 (((((zAM bs ((zW bs R i).2.1) ((zW bs R i).2.2)).1).a).toNat:Nat):Int)] 161],none⟩,.x [5] ⟨[row p 161 9 ((zW bs R i).1.length) ((zW bs R i).1.flatMap zDv)],[],[],λvs6=>True,λvs6=>[row (vs6 8) 161 9 (((zW bs R i).1.length)+1) (((zW bs R i).1.flatMap zDv)++([zI (((zAM bs ((zW bs R i).2.1) ((zW bs R i).2.2)).1).k),zI (((zAM bs ((zW bs R i).2.1) ((zW bs R i).2.2)).1).id),zI (((zAM bs ((zW bs R i).2.1) ((zW bs R i).2.2)).1).p0),zI (((zAM bs ((zW bs R i).2.1) ((zW bs R i).2.2)).1).p1),zI (((zAM bs ((zW bs R i).2.1) ((zW bs R i).2.2)).1).p2),zI (((zAM bs ((zW bs R i).2.1) ((zW bs R i).2.2)).1).v0),zI (((zAM bs ((zW bs R i).2.1) ((zW bs R i).2.2)).1).v1),zI (((zAM bs ((zW bs R i).2.1) ((zW bs R i).2.2)).1).v2),.int .u16 (((((zAM bs ((zW bs R i).2.1) ((zW bs R i).2.2)).1).a).toNat:Nat):Int)]))],none⟩,.p [] [],.p [9] [0],.p [0] [],.p [11] [],.p [12] [],.x [13] ⟨[blk h [pt g 0,zI t,zI tm,zI b,p] 278],[],[8],λvs6=>True,λvs6=>[blk h [pt g 0,zI t,zI tm,zI b,(vs6 8)] 278],none⟩,.p [10] []] [15] hs .n (.c (.s (.s (.s .z))) (.c (.s (.s .z)) .n)) (.c .z .n) (by kernel_rfl) ⟨rfl,rfl,⟨(.c .z (.c .z .n)),by kernel_rfl,λ_=>rfl,rfl,rfl⟩,⟨?_,?_,?_,?_,trivial⟩,?_⟩
  ·
   intro a_ w_ R_ rest_ vs6 hm hs ht hx
   have hs0:=hs.bare
   refine zAC hs rfl (hm.own (List.mem_append.2 (.inr ((hx 14 (zJ 16 _ (by kernel_rfl))).1 _ (List.Mem.head _))))) (.s (.s (.s (.s .z)))) isAgg114 rfl ?_;clear hs;intro a w hs
   exact wpList_nil ⟨rfl,_,_,hs0,(.c .r),hs,rfl⟩
  ·
   intro a_ w_ R_ rest_ vs6 hm hs ht hx
   have hs0:=hs.bare
   refine zHt (cs:=[zI (((zAM bs ((zW bs R i).2.1) ((zW bs R i).2.2)).1).k),zI (((zAM bs ((zW bs R i).2.1) ((zW bs R i).2.2)).1).id),zI (((zAM bs ((zW bs R i).2.1) ((zW bs R i).2.2)).1).p0),zI (((zAM bs ((zW bs R i).2.1) ((zW bs R i).2.2)).1).p1),zI (((zAM bs ((zW bs R i).2.1) ((zW bs R i).2.2)).1).p2),zI (((zAM bs ((zW bs R i).2.1) ((zW bs R i).2.2)).1).v0),zI (((zAM bs ((zW bs R i).2.1) ((zW bs R i).2.2)).1).v1),zI (((zAM bs ((zW bs R i).2.1) ((zW bs R i).2.2)).1).v2),.int .u16 (((((zAM bs ((zW bs R i).2.1) ((zW bs R i).2.2)).1).a).toNat:Nat):Int)]) hs (.c .n) (.c rfl .n) underlying114 (ie:=Tryz.t161) rfl rfl rfl rfl (by decide) (by decide) rfl (by decide) rfl rfl rfl ?_;clear hs;intro g7 a w hs
   exact wpList_nil ⟨rfl,_,_,hs0,(.c .r),hs,rfl⟩
  ·
   intro a_ w_ R_ rest_ vs6 hm hs ht hx
   have t7:=ht 7 (zJ 16 _ (by kernel_rfl))
   have e7:_=some (vs6 7):=t7.val rfl
   rw [show vs6 7 = .slice (some ⟨(zBj (vs6 7)),0,none⟩) 1 1 from t7.2.1] at e7
   replace hs:=hs.learn e7
   have hs0:=hs.bare
   refine zBH (size:=9) (bytes:=72) hs rfl rfl .z (zAJ (m:=1) (size:=9) (hm.own (List.mem_append.2 (.inr ((ht 7 (zJ 16 _ (by kernel_rfl))).2.2 (zHo (n:=16) (by kernel_rfl)) _ (List.Mem.head _))))) rfl (by decide)) (by simp [Value.oneCell']) underlying114 (i:=Tryz.t161) rfl rfl rfl rfl rfl (by decide) (by omega) (by simp only [maxLen];omega) rfl ?_;clear hs;intro v8 a w hs
   exact wpList_nil ⟨rfl,_,_,hs0,(.c (.c .r)),hs,trivial⟩
  ·
   intro a_ w_ R_ rest_ vs6 hm hs ht hx
   have t8:=ht 8 (zJ 16 _ (by kernel_rfl))
   have e8:_=some (vs6 8):=t8.val rfl
   replace hs:=hs.learn e8
   have hs0:=hs.bare
   refine zBh hs rfl rfl .z (.s (.s (.s (.s .z)))) (zK (hm.own (List.mem_append.2 (.inr ((ht 8 (zJ 16 _ (by kernel_rfl))).2.2 (zHo (n:=16) (by kernel_rfl)) _ (List.Mem.head _)))))).isSl.one sizeOf114 ?_;clear hs;intro a w hs
   exact wpList_nil ⟨rfl,.tuple #[],_,hs0,(.c (.c .r)),hs,trivial⟩
  clear hs w a;intro vs6 a w hs hf
  generalize zBj (vs6 7)=g9 at hs
  generalize vs6 8=v10 at hs
  clear hf
  revert a w hs
  refine goE 0 [] [2,0,9,10] .n ?_
  intro a w hs;refine zAo (X:=BitVec.ofNat 64 i) (Y:=1#64) hs rfl rfl rfl (by decide) rfl ?_
  refine goL 1 [] [10,2,0,9] .n ?_
  have hO_:=zKX (bs:=bs) (R:=R) (i:=i) (by omega) (by omega)
  intro a w hs;replace hs:=hs.rerow (.s (.s (.s .z))) (m':=(zW bs R (i+1)).1.length) (xs':=((zW bs R (i+1)).1.flatMap zDv)) (by rw [hO_];simp only [List.length_append,List.length_singleton]) (by rw [hO_];dsimp only;rw [List.flatMap_append];rfl)
  replace hs:=hs.reblk (.s (.s .z)) (cs':=[v,nI ((zW bs R (i+1)).2.2.p),nI ((zW bs R (i+1)).2.2.e)]) (by rw [hO_])
  replace hs:=hs.reslot (d:=2) (v:=zI (((zAM bs ((zW bs R i).2.1) ((zW bs R i).2.2)).1).id)) (v':=zI ((zW bs R (i+1)).2.1)) rfl (Option.some.inj (by rw [hO_]))
  replace hs:=hs.reslot (d:=10) (v:=qI ((BitVec.ofNat 64 i)+(1#64))) (v':=qI (BitVec.ofNat 64 (i+1))) rfl (Option.some.inj (by rw [zMC]))
  replace hs:=hs.drop (.c (.s (.s (.s .z))) (.c (.s (.s .z)) .n))
  replace hs:=hs.reorder (.c .z (.c (.s .z) (.c .z .n)))
  refine ⟨_,?_,i+1,v10,rfl,hs.sub (.c rfl (.c rfl (.c rfl (.c rfl .n)))),by omega,zCw hle (i+1),.inr (zPP hle (by omega) (by omega))⟩
  omega
 refine go 0 [] [] .n ?_
 have hE_:i=gN bs R:=by omega
 intro a w hs;exact zIo hs rfl ⟨rfl,p,by rw [← hE_]⟩
theorem zPm (v:Value) (m:Nat) (bs:List zQ) (w0:World) (hb:Rd w0 [] v 1 m (zD bs)) (hm:4096<m):Calls Tryz.prog 126 #[v] w0 (Ret w0 [] λu N=>∃ v',u = .tuple #[.agg #[zI ((zA bs).t),zI ((zA bs).tm),zI ((zA bs).b),v'],nI ((zA bs).e)]∧N=[row v' 161 9 (zA bs).l.length ((zA bs).l.flatMap zDv)]):=by
 have hbl:bs.length=m:=by have:=hb.len;simpa [zD] using this
 have hbe:m≤maxLen:=hb.le
 simp only [maxLen] at hbe
 refine zG (F0:=[(0,v)]) func126 rfl rfl rfl (.c .n) (Mem.nil _) ?_
 refine go 3 [] [10,2,0] .n (λg1=>?_)
 intro a w hs;refine zAG hs rfl (hs.rd0 hb).isSl underlying28 rfl ?_
 refine goL 1 [] [12,2,0] .n ?_
 refine ifG rfl (λc_2=>?_) (λc_2=>?_)
 ·
  refine go 3 [0] [3,2] (.c .z .n) ⟨rfl,?_⟩
  refine cl (·.addNil 161 9) ?_
  have hG_:=zJT (bs:=bs) (by omega)
  intro a w hs;exact zBM hs rfl rfl rfl (.s .z) (.z (.c (.c (.c (.c .n))))) isAgg116 sizeOf116 (.c (.s .z) .n) (by rw [hG_];dsimp only;exact ⟨.slice none 0 0,rfl,rfl⟩)
 exfalso;omega
theorem zPA (v:Value) (m:Nat) (bs:List zQ) (w0:World) (hb:Rd w0 [] v 1 m (zD bs)) (hm:m≤4096) (ho:zCy bs=none):Calls Tryz.prog 126 #[v] w0 (Ret w0 [] λu N=>∃ v',u = .tuple #[.agg #[zI ((zA bs).t),zI ((zA bs).tm),zI ((zA bs).b),v'],nI ((zA bs).e)]∧N=[row v' 161 9 (zA bs).l.length ((zA bs).l.flatMap zDv)]):=by
 have hbl:bs.length=m:=by have:=hb.len;simpa [zD] using this
 have hbe:m≤maxLen:=hb.le
 simp only [maxLen] at hbe
 refine zG (F0:=[(0,v)]) func126 rfl rfl rfl (.c .n) (Mem.nil _) ?_
 refine go 3 [] [10,2,0] .n (λg1=>?_)
 intro a w hs;refine zAG hs rfl (hs.rd0 hb).isSl underlying28 rfl ?_
 refine goL 1 [] [12,2,0] .n ?_
 refine ifG rfl (λc_2=>?_) (λc_2=>?_)
 ·
  exfalso;omega
 refine go 1 [] [15,2] .n ?_
 intro a w hs;refine zB hs (.c rfl .n) call178 (zQ6 _ _ bs _ (hs.rd0 hb) (by omega) ho) rfl ?_
 refine goL 11 [0] [3,2] (.c .z .n) ⟨rfl,?_⟩
 refine cl (·.addNil 161 9) ?_
 have hG_:=zJa (bs:=bs) (by omega) ho
 intro a w hs;exact zBM hs rfl rfl rfl (.s .z) (.z (.c (.c (.c (.c .n))))) isAgg116 sizeOf116 (.c (.s .z) .n) (by rw [hG_];dsimp only;exact ⟨.slice none 0 0,rfl,rfl⟩)
set_option maxHeartbeats 600000 in
theorem zPe (v:Value) (m:Nat) (bs:List zQ) (w0:World) (hb:Rd w0 [] v 1 m (zD bs)) (x:List zQ) (hm:m≤4096) (ho:zCy bs=some x):Calls Tryz.prog 126 #[v] w0 (Ret w0 [] λu N=>∃ v',u = .tuple #[.agg #[zI ((zA bs).t),zI ((zA bs).tm),zI ((zA bs).b),v'],nI ((zA bs).e)]∧N=[row v' 161 9 (zA bs).l.length ((zA bs).l.flatMap zDv)]):=by
 have hbl:bs.length=m:=by have:=hb.len;simpa [zD] using this
 have hbe:m≤maxLen:=hb.le
 simp only [maxLen] at hbe
 have hxl:x.length≤bs.length:=by have:=zER x;rw [← (zQO bs x).1 ho] at this;omega
 have hR0:(⟨0,0⟩ : Rs).p≤x.length:=Nat.zero_le _
 have hlim32:(4294967295#64).toNat=4294967295:=rfl
 refine zG (F0:=[(0,v)]) func126 rfl rfl rfl (.c .n) (Mem.nil _) ?_
 refine go 3 [] [10,2,0] .n (λg1=>?_)
 intro a w hs;refine zAG hs rfl (hs.rd0 hb).isSl underlying28 rfl ?_
 refine goL 1 [] [12,2,0] .n ?_
 refine ifG rfl (λc_2=>?_) (λc_2=>?_)
 ·
  exfalso;omega
 refine go 1 [] [15,2] .n ?_
 intro a w hs;refine zL hs (.c rfl .n) call178 .n (zQG _ _ bs _ (hs.rd0 hb) _ (by omega) ho) rfl ?_;clear hs w a;rintro _ _ a w ⟨v3,rfl,rfl⟩ hs
 revert a w hs
 refine goL 9 [] [22,2] .n ?_
 intro a w hs;refine zL hs (.c rfl .n) call179 .n (zZ9 _ _ x _ (zK (hs.mem.del .z))) rfl ?_;clear hs w a;rintro _ _ a w ⟨g4,rfl,rfl⟩ hs
 have hleg4:(⟨0,0⟩ : Rs).p≤x.length:=Nat.zero_le _
 revert a w hs
 refine goL 14 [0] [36,35,34,6,2] .n (λg5=>λg6=>?_)
 intro a w hs;refine zCA 4 ?_
 revert a w hs
 refine go 2 [] [36,35,34,6,2] .n ?_
 intro a w hs;refine zA9 (j:=0) hs rfl rfl (zAJ (m:=4) (size:=1) (hs.mem.del .z) rfl (by decide)) (by decide) (by omega) underlying279 sizeOf1 rfl ?_
 intro a w hs;refine zBf (u:=.func (.func 180) #[pt g5 0] #[]) hs rfl (zAJ (m:=4) (size:=1) (hs.mem.del .z) rfl (by decide)) (by rfl) isAgg1 rfl ?_
 refine goL 2 [] [40,36,35,34,6,2] .n ?_
 intro a w hs;refine zFH (fs:=[pt g5 0]) (us:=[]) hs rfl .n rfl call180 (.c (.s (.s .z)) .n) (zSr  g4 g5 _ _ x (⟨0,0⟩ : Rs) 0 0 0 (.slice none 0 0) _ (hs.mem.rdrow (.s (.s (.s .z))) (.c (.s (.s .z)) .n)) (hs.mem.del (.s (.s .z))) (hs.mem.del (.s .z)) (by omega)) rfl ?_;clear hs w a;rintro _ _ a w ⟨rfl,rfl⟩ hs
 have hk7:=zKm (bs:=x) (R:=(⟨0,0⟩ : Rs)) (by omega)
 replace hs:=hs.reblk .z (cs':=[v3,nI ((gR1 x).p),nI ((gR1 x).e)]) rfl
 have hk8:=zW4 x
 revert a w hs
 refine goL 2 [] [36,35,34,6,2] .n ⟨by decide,?_⟩
 intro a w hs;refine zAL ?_
 revert a w hs
 refine go 2 [] [36,35,34,6,2] .n ?_
 intro a w hs;refine zA9 (j:=1) hs rfl rfl (zAJ (m:=4) (size:=1) (hs.mem.del (.s .z)) rfl (by decide)) (by decide) (by omega) underlying279 sizeOf1 rfl ?_
 intro a w hs;refine zBf (u:=.func (.func 181) #[pt g5 0] #[]) hs rfl (zAJ (m:=4) (size:=1) (hs.mem.del (.s .z)) rfl (by decide)) (by rfl) isAgg1 rfl ?_
 refine goL 2 [] [40,36,35,34,6,2] .n ?_
 intro a w hs;refine zFH (fs:=[pt g5 0]) (us:=[]) hs rfl .n rfl call181 (.c .z (.c (.s .z) .n)) (zVR g4 g5 _ _ x (gR1 x) 0 0 0 (.slice none 0 0) _ (hs.mem.rdrow (.s (.s (.s .z))) (.c .z (.c (.s .z) .n))) (hs.mem.del .z) (hs.mem.del (.s (.s .z))) (by omega)) rfl ?_;clear hs w a;rintro _ _ a w ⟨rfl,rfl⟩ hs
 have hk9:=zak (bs:=x) (R:=(gR1 x)) (by omega)
 have hk10:=zWL (bs:=x) (R:=(gT x (gR1 x)).2) (by omega)
 replace hs:=hs.reblk .z (cs':=[v3,nI ((zHA x).2.p),nI ((zHA x).2.e)]) rfl
 replace hs:=hs.reblk (.s .z) (cs':=[pt g4 0,zI ((gTx x).1),zI ((zHA x).1),zI 0,.slice none 0 0]) rfl
 have hk11:=zOI x
 have hk12:=zM7 x
 revert a w hs
 refine goL 2 [] [36,35,34,6,2] .n ⟨by decide,?_⟩
 intro a w hs;refine zAL ?_
 revert a w hs
 refine go 2 [] [36,35,34,6,2] .n ?_
 intro a w hs;refine zA9 (j:=2) hs rfl rfl (zAJ (m:=4) (size:=1) (hs.mem.del (.s (.s .z))) rfl (by decide)) (by decide) (by omega) underlying279 sizeOf1 rfl ?_
 intro a w hs;refine zBf (u:=.func (.func 182) #[pt g5 0] #[]) hs rfl (zAJ (m:=4) (size:=1) (hs.mem.del (.s (.s .z))) rfl (by decide)) (by rfl) isAgg1 rfl ?_
 refine goL 2 [] [40,36,35,34,6,2] .n ?_
 intro a w hs;refine zFH (fs:=[pt g5 0]) (us:=[]) hs rfl .n rfl call182 (.c (.s .z) (.c .z .n)) (zVL g4 g5 _ _ x ((zHA x).2) ((gTx x).1) ((zHA x).1) 0 (.slice none 0 0) _ (hs.mem.rdrow (.s (.s (.s .z))) (.c (.s .z) (.c .z .n))) (hs.mem.del (.s .z)) (hs.mem.del .z) (by omega) (by omega)) rfl ?_;clear hs w a;rintro _ _ a w ⟨rfl,rfl⟩ hs
 have hk13:=za1 (bs:=x) (t:=((gTx x).1)) (R:=((zHA x).2)) (by omega) (by omega)
 replace hs:=hs.reblk .z (cs':=[v3,nI ((gBx x).2.p),nI ((gBx x).2.e)]) rfl
 replace hs:=hs.reblk (.s .z) (cs':=[pt g4 0,zI ((gTx x).1),zI ((zHA x).1),zI ((gBx x).1),.slice none 0 0]) rfl
 have hk14:=zLt x
 revert a w hs
 refine goL 2 [] [36,35,34,6,2] .n ⟨by decide,?_⟩
 intro a w hs;refine zAL ?_
 revert a w hs
 refine go 2 [] [36,35,34,6,2] .n ?_
 intro a w hs;refine zA9 (j:=3) hs rfl rfl (zAJ (m:=4) (size:=1) (hs.mem.del (.s (.s .z))) rfl (by decide)) (by decide) (by omega) underlying279 sizeOf1 rfl ?_
 intro a w hs;refine zBf (u:=.func (.func 183) #[pt g5 0] #[]) hs rfl (zAJ (m:=4) (size:=1) (hs.mem.del (.s (.s .z))) rfl (by decide)) (by rfl) isAgg1 rfl ?_
 refine goL 2 [] [40,36,35,34,6,2] .n ?_
 intro a w hs;refine zFH (fs:=[pt g5 0]) (us:=[]) hs rfl .n rfl call183 (.c (.s .z) (.c .z .n)) (zTh g4 g5 _ _ x ((gBx x).2) ((gTx x).1) ((zHA x).1) ((gBx x).1)  _ (hs.mem.rdrow (.s (.s (.s .z))) (.c (.s .z) (.c .z .n))) (hs.mem.del (.s .z)) (hs.mem.del .z) (by omega)) rfl ?_;clear hs w a;rintro _ _ a w ⟨rfl,v15,rfl⟩ hs
 have hk16:=(zCw (bs:=x) (R:=((gBx x).2)) (by omega) (gN x ((gBx x).2))).p
 have hk17:=(zCw (bs:=x) (R:=((gBx x).2)) (by omega) (gN x ((gBx x).2))).len
 have hk18:=zYy x ((gBx x).2)
 replace hs:=hs.reblk .z (cs':=[v3,nI ((gSx x).2.2.p),nI ((gSx x).2.2.e)]) (by rw [zG0])
 replace hs:=hs.rerow (.s (.s .z)) (m':=(gSx x).1.length) (xs':=((gSx x).1.flatMap zDv)) (by rw [zG0]) (by rw [zG0])
 have hk19:=zTM x
 have hgs:=zcV x
 revert a w hs
 refine goL 2 [] [36,35,34,6,2] .n ⟨by decide,?_⟩
 intro a w hs;refine zAL ?_
 revert a w hs
 refine go 6 [0] [46,6,2] (.c (.s (.s .z)) .n) ⟨rfl,?_⟩
 intro a w hs;refine zB (v:=nI (zIz x ((gSx x).2.2))) hs (.c rfl .n) call184 (zVa g4 _ _ x ((gSx x).2.2) _ (zK (hs.mem.del (.s (.s (.s (.s .z)))))) (hs.mem.del (.s (.s .z))) (by omega)) rfl ?_
 refine cl (·.recell (v':=nI (gEx x)) (Option.some.inj (by rw [zP2]))) ?_
 refine goL 3 [] [49,9,6,2] .n ?_
 refine ifG rfl (λc_20=>?_) (λc_20=>?_)
 ·
  refine go 4 [0] [3,2] (.c (.s (.s (.s (.s (.s .z))))) .n) ⟨rfl,?_⟩
  refine cl (·.addNil 161 9) ?_
  have hG_:=zK6 (bs:=bs) (by omega) ho (by omega)
  intro a w hs;exact zBM hs rfl rfl rfl (.s .z) (.z (.c (.c (.c (.c .n))))) isAgg116 sizeOf116 (.c (.s (.s (.s (.s (.s (.s .z)))))) (.c (.s (.s (.s (.s (.s .z))))) (.c (.s (.s (.s (.s .z)))) (.c (.s (.s (.s .z))) (.c (.s (.s .z)) (.c (.s .z) .n)))))) (by rw [hG_];dsimp only;exact ⟨.slice none 0 0,rfl,rfl⟩)
 refine go 4 [0] [55,2] (.c .z .n) ⟨rfl,?_⟩
 intro a w hs;refine zAU hs rfl rfl (.s (.s (.s (.s (.s .z))))) (.z (.c (.c (.c (.c .n))))) (zF rfl (zF rfl (zF rfl (zF (zK (hs.mem.del (.s .z))).isSl.one zAX)))) sizeOf116 rfl ?_
 refine goL 1 [] [3,2] .n ?_
 have hG_:=zKD (bs:=bs) (by omega) ho (by omega)
 intro a w hs;exact zBM hs rfl rfl rfl .z (.z (.c (.c (.c (.c .n))))) isAgg116 sizeOf116 (.c (.s (.s (.s (.s (.s .z))))) (.c (.s (.s (.s (.s .z)))) (.c (.s (.s (.s .z))) (.c (.s .z) (.c .z .n))))) (by rw [hG_];dsimp only;exact ⟨v15,rfl,rfl⟩)
theorem zUz (v:Value) (m:Nat) (bs:List zQ) (w0:World) (hb:Rd w0 [] v 1 m (zD bs)):Calls Tryz.prog 126 #[v] w0 (Ret w0 [] λu N=>∃ v',u = .tuple #[.agg #[zI ((zA bs).t),zI ((zA bs).tm),zI ((zA bs).b),v'],nI ((zA bs).e)]∧N=[row v' 161 9 (zA bs).l.length ((zA bs).l.flatMap zDv)]):=by
 by_cases hm:4096<m
 ·exact zPm v m bs w0 hb hm
 ·cases ho:zCy bs with
  | none=>exact zPA v m bs w0 hb (by omega) ho
  | some x=>exact zPe v m bs w0 hb x (by omega) ho
theorem zLA (t tm:Int) (u:Value) (l:List zS) (gt gtm gb:Int) (gu:Value) (rl:List zY) (w0:World) (ht_ : -9223372036854775808≤t∧t≤9223372036854775807) (htm_ : -9223372036854775808≤tm∧tm≤9223372036854775807) (hgt_ : -9223372036854775808≤gt∧gt≤9223372036854775807) (hgtm_ : -9223372036854775808≤gtm∧gtm≤9223372036854775807) (hgb_ : -9223372036854775808≤gb∧gb≤9223372036854775807) (hc:Rd w0 [] u 9 l.length (l.flatMap zBI)) (hcg:Rd w0 [] gu 9 rl.length (rl.flatMap zDv)) (hw:∀ x∈rl,x.wf):Calls Tryz.prog 129 #[.agg #[zI t,zI tm,u],.agg #[zI gt,zI gtm,zI gb,gu]] w0 (Ret w0 [] λx N=>∃ v,x = .tuple #[.agg #[zI ((aS t tm l gt gtm gb rl).t),zI ((aS t tm l gt gtm gb rl).tm),v],nI (aE t tm l gt gtm gb rl)]∧N=[row v 48 9 (aS t tm l gt gtm gb rl).l.length ((aS t tm l gt gtm gb rl).l.flatMap zBI)]):=by
 have hce:=hc.le
 simp only [maxLen] at hce
 have hcge:=hcg.le
 simp only [maxLen] at hcge
 refine zG (F0:=[(0,.agg #[zI t,zI tm,u]),(1,.agg #[zI gt,zI gtm,zI gb,gu])]) func129 rfl rfl rfl (.c (.c .n)) (Mem.nil _) ?_
 refine go 5 [0,0,1] [14,4,3,2] .n (λg1=>λg2=>λg3=>⟨rfl,?_⟩)
 intro a w hs;refine zB (v:=nI (zAc gt gtm gb rl)) hs (.c rfl .n) call187 (zQz gt gtm gb _ rl _ (by omega) (by omega) (by omega) (hs.rd0 hcg) hw) rfl ?_
 refine goL 3 [] [17,6,4,3,2] .n ?_
 refine ifG rfl (λc_4=>?_) (λc_4=>?_)
 ·
  refine go 4 [0] [5,4] (.c .z .n) ⟨rfl,?_⟩
  have hE:aE t tm l gt gtm gb rl=zAc gt gtm gb rl:=by first | exact zZv (by omega) | exact zZy (by omega) (by omega) (by omega) | exact zZ3 (by omega) (by omega) (by omega) (by omega) | (rw [zPp (by omega) hpre,← hwas];exact zIi (zD5 hsw hbp.2 (zGO (by omega) hI1_1 (zE2 (by assumption))))) | (rw [zPp (by omega) hpre,← hwas];obtain ⟨l3,q1,q2,q3⟩:=zDD hsw hbp.2 (zFM (by omega) hI1_1);exact zH3 q1 (by rw [← q2.length_eq];omega))
  have hS:aS t tm l gt gtm gb rl=⟨0,0,[]⟩:=zZ0 (by omega)
  refine cl (·.addNil 48 9) ?_
  intro a w hs;replace hs:=hs.rerow .z (m':=(aS t tm l gt gtm gb rl).l.length) (xs':=((aS t tm l gt gtm gb rl).l.flatMap zBI)) (by rw [hS];rfl) (by rw [hS];rfl)
  exact zBM hs rfl rfl rfl (.s .z) (.z (.c (.c (.c .n)))) isAgg46 sizeOf46 (.c (.s (.s (.s .z))) (.c (.s (.s .z)) (.c (.s .z) .n))) ⟨_,by rw [hE,hS]<;>rfl,rfl⟩
 refine go 0 [] [4,3,2] .n ?_
 intro a w hs;refine zQ5 hs rfl ?_;intro g5
 refine zPd 11 4 [0] [23,7,4,3,2] (.c (.s (.s .z)) .n) ⟨rfl,?_⟩
 intro a w hs;refine zZx (λa w=>∃ g9:Nat,∃ was:List zS,St 105 [(3,pt g2 0),(4,pt g3 0),(7,.map (some g9))] w0 [] [mpr g9 (ekv was),blk g2 [zI gt,zI gtm,zI gb,gu] 116,blk g3 [zI 0,zI 0,.slice none 0 0] 46] a w∧was=zGr gb l∧(0≤gb→zAB t tm l=0∧t=gb)) ?_ ?_
 ·
  revert a w hs;refine ifG rfl (λc_6=>?_) (λc_6=>?_)
  ·
   refine go 1 [0] [24,4,3,2] (.c (.s (.s (.s .z))) .n) ⟨rfl,?_⟩
   intro a w hs;refine zB (v:=nI (zAB t tm l)) hs (.c rfl .n) call95 (zIT t tm _ l _ (by omega) (by omega) (hs.rd0 hc)) rfl ?_
   refine goL 3 [] [27,8,4,3,2] .n ?_
   refine ifG rfl (λc_7=>?_) (λc_7=>?_)
   ·
    refine go 4 [0] [5,4] (.c (.s (.s (.s .z))) .n) ⟨rfl,?_⟩
    have hE:aE t tm l gt gtm gb rl=zAB t tm l:=by first | exact zZv (by omega) | exact zZy (by omega) (by omega) (by omega) | exact zZ3 (by omega) (by omega) (by omega) (by omega) | (rw [zPp (by omega) hpre,← hwas];exact zIi (zD5 hsw hbp.2 (zGO (by omega) hI1_1 (zE2 (by assumption))))) | (rw [zPp (by omega) hpre,← hwas];obtain ⟨l3,q1,q2,q3⟩:=zDD hsw hbp.2 (zFM (by omega) hI1_1);exact zH3 q1 (by rw [← q2.length_eq];omega))
    have hS:aS t tm l gt gtm gb rl=⟨0,0,[]⟩:=zZ0 (by omega)
    refine cl (·.addNil 48 9) ?_
    intro a w hs;replace hs:=hs.rerow .z (m':=(aS t tm l gt gtm gb rl).l.length) (xs':=((aS t tm l gt gtm gb rl).l.flatMap zBI)) (by rw [hS];rfl) (by rw [hS];rfl)
    exact zBM hs rfl rfl rfl (.s .z) (.z (.c (.c (.c .n)))) isAgg46 sizeOf46 (.c (.s (.s (.s (.s .z)))) (.c (.s (.s (.s .z))) (.c (.s (.s .z)) (.c (.s .z) .n)))) ⟨_,by rw [hE,hS]<;>rfl,rfl⟩
   refine go 5 [0,1] [34,4,3,2] (.c .z (.c .z .n)) ⟨rfl,rfl,?_⟩
   refine ifG rfl (λc_8=>?_) (λc_8=>?_)
   ·
    refine go 3 [0] [5,4] (.c (.s (.s (.s .z))) .n) ⟨rfl,?_⟩
    have hE:aE t tm l gt gtm gb rl=14:=by first | exact zZv (by omega) | exact zZy (by omega) (by omega) (by omega) | exact zZ3 (by omega) (by omega) (by omega) (by omega) | (rw [zPp (by omega) hpre,← hwas];exact zIi (zD5 hsw hbp.2 (zGO (by omega) hI1_1 (zE2 (by assumption))))) | (rw [zPp (by omega) hpre,← hwas];obtain ⟨l3,q1,q2,q3⟩:=zDD hsw hbp.2 (zFM (by omega) hI1_1);exact zH3 q1 (by rw [← q2.length_eq];omega))
    have hS:aS t tm l gt gtm gb rl=⟨0,0,[]⟩:=zZ0 (by omega)
    refine cl (·.addNil 48 9) ?_
    intro a w hs;replace hs:=hs.rerow .z (m':=(aS t tm l gt gtm gb rl).l.length) (xs':=((aS t tm l gt gtm gb rl).l.flatMap zBI)) (by rw [hS];rfl) (by rw [hS];rfl)
    exact zBM hs rfl rfl rfl (.s .z) (.z (.c (.c (.c .n)))) isAgg46 sizeOf46 (.c (.s (.s (.s (.s .z)))) (.c (.s (.s (.s .z))) (.c (.s (.s .z)) (.c (.s .z) .n)))) ⟨_,by rw [hE,hS]<;>rfl,rfl⟩
   have hsrt:=zGB (zCR (by omega:zAB t tm l=0)).2.2.2.2.2
   refine go 2 [0] [37,4,3] (.c .z .n) ⟨rfl,?_⟩
   intro a w hs;refine zL hs (.c rfl .n) call188 .n (zX2 _ l _ (hs.rd0 hc) (by assumption)) rfl ?_;clear hs w a;rintro _ _ a w ⟨g9,rfl,rfl⟩ hs
   revert a w hs
   refine goL 1 [] [7,4,3] .n ?_
   refine cl (·.drop (.c (.s (.s (.s .z))) (.c (.s .z) .n))) ?_
   intro a w hs;exact ⟨g9,l,hs.sub (.c rfl (.c rfl (.c rfl .n))),by unfold zGr;first | rw [if_pos (by omega)] | rw [if_neg (by omega)],by omega⟩
  refine go 0 [] [7,4,3] .n ?_
  refine cl (·.drop (.c (.s (.s (.s .z))) .n)) ?_
  refine cl (·.reorder (.c (.s .z) (.c .z (.c .z .n)))) ?_
  intro a w hs;exact ⟨g5,[],hs.sub (.c rfl (.c rfl (.c rfl .n))),by unfold zGr;first | rw [if_pos (by omega)] | rw [if_neg (by omega)],by omega⟩
 clear hs w a;rintro a w ⟨g9,was,hs,hJ10,hJ11⟩
 have hwas:=hJ10
 have hpre:=hJ11
 have hsw:Srt was:=hwas ▸ zSD hpre
 have hbp:=zEL (by omega:zAc gt gtm gb rl=0)
 revert a w hs
 refine go 2 [0] [40,3,4,7] (.c (.s .z) .n) ⟨rfl,?_⟩
 intro a w hs;refine zAG hs rfl (hs.rd0 hcg).isSl underlying114 rfl ?_
 refine goL 1 [] [42,41,40,3,4,7] .n ?_
 refine cl (·.reorder (.c (.s .z) (.c .z (.c .z .n)))) ?_
 intro a w hs;refine zCC (λmm_ a w=>∃ k:Nat,∃ mm:List zS,mm_=rl.length-k∧St 105 [(3,pt g2 0),(4,pt g3 0),(7,.map (some g9)),(40,gu),(41,nI rl.length),(42,zI (k:Int))] w0 [] [mpr g9 (ekv mm),blk g2 [zI gt,zI gtm,zI gb,gu] 116,blk g3 [zI 0,zI 0,.slice none 0 0] 46] a w∧k≤rl.length∧(zCe was rl=zCe mm (rl.drop k))) ⟨0,was,rfl,hs.sub (.c rfl (.c rfl (.c rfl (.c rfl (.c rfl (.c rfl .n)))))),by omega,rfl⟩ ?_
 clear hs w a;rintro mm_ a w ⟨k,mm,rfl,hs,hI1_0,hI1_1⟩
 revert a w hs
 refine go 1 [] [43,3,4,7,40,41,42] .n ?_
 refine ifG rfl (λc_12=>?_) (λc_12=>?_)
 ·
  refine go 0 [] [3,4,7,40,41,42] .n ?_
  intro a w hs;refine zBF (j:=k) hs rfl rfl (hs.rd0 hcg) rfl (by omega) underlying114 sizeOf161 rfl ?_
  intro a w hs;refine zAx (cs:=zDv (rl.getD k default)) hs rfl (hs.rd0 hcg) (zAZ zGI rl k (by omega)) (by rw [zAN zGI];omega) (by omega) isAgg161 sizeOf161 rfl ?_
  refine goL 5 [0,0] [49,47,10,3,4,7,40,41,42] .n (λg13=>⟨rfl,rfl,?_⟩)
  intro a w hs;refine zOZ hs rfl rfl (.s .z) underlying180 underlying3 zeroValue48 rfl ?_
  refine goL 12 [0,1] [62,12,11,10,3,4,7,40,41,42] (.c .z .n) (λg14=>⟨rfl,rfl,?_⟩)
  refine zZA rfl (λc_15=>?_) (λc_15=>?_)
  ·
   refine go 3 [0] [5,4] (.c (.s (.s (.s (.s .z)))) .n) ⟨rfl,?_⟩
   have hE:aE t tm l gt gtm gb rl=15:=by first | exact zZv (by omega) | exact zZy (by omega) (by omega) (by omega) | exact zZ3 (by omega) (by omega) (by omega) (by omega) | (rw [zPp (by omega) hpre,← hwas];exact zIi (zD5 hsw hbp.2 (zGO (by omega) hI1_1 (zE2 (by assumption))))) | (rw [zPp (by omega) hpre,← hwas];obtain ⟨l3,q1,q2,q3⟩:=zDD hsw hbp.2 (zFM (by omega) hI1_1);exact zH3 q1 (by rw [← q2.length_eq];omega))
   have hS:aS t tm l gt gtm gb rl=⟨0,0,[]⟩:=zZ0 (by omega)
   refine cl (·.addNil 48 9) ?_
   intro a w hs;replace hs:=hs.rerow .z (m':=(aS t tm l gt gtm gb rl).l.length) (xs':=((aS t tm l gt gtm gb rl).l.flatMap zBI)) (by rw [hS];rfl) (by rw [hS];rfl)
   exact zBM hs rfl rfl rfl (.s .z) (.z (.c (.c (.c .n)))) isAgg46 sizeOf46 (.c (.s (.s (.s (.s (.s .z))))) (.c (.s (.s (.s (.s .z)))) (.c (.s (.s (.s .z))) (.c (.s (.s .z)) (.c (.s .z) .n))))) ⟨_,by rw [hE,hS]<;>rfl,rfl⟩
  refine go 3 [] [69,11,10,3,4,7,40,41,42] .n ?_
  refine ifG rfl (λc_16=>?_) (λc_16=>?_)
  ·
   refine go 12 [0,0,0,0,0] [83,74,72,3,4,7,40,41,42] (.c (.s .z) .n) ⟨rfl,rfl,rfl,rfl,rfl,?_⟩
   intro a w hs;refine zMs (u:=(⟨(rl.getD k default).id,(rl.getD k default).p0,(rl.getD k default).p1,(rl.getD k default).p2,(rl.getD k default).v0,(rl.getD k default).v1,(rl.getD k default).v2,(rl.getD k default).a,0#8⟩ : zS)) hs rfl rfl rfl (.s (.s .z)) (by first | rfl | exact hku) underlying180 underlying3 ?_
   refine goL 2 [] [42,3,4,7,40,41] .n ⟨(by omega),?_⟩
   refine cl (·.drop (.c (.s (.s .z)) (.c (.s .z) .n))) ?_
   intro a w hs;refine ⟨_,?_,k+1,zIa (⟨(rl.getD k default).id,(rl.getD k default).p0,(rl.getD k default).p1,(rl.getD k default).p2,(rl.getD k default).v0,(rl.getD k default).v1,(rl.getD k default).v2,(rl.getD k default).a,0#8⟩ : zS) mm,rfl,hs.sub (.c rfl (.c rfl (.c rfl (.c rfl (.c rfl (.c rfl .n)))))),by omega,zIB (by omega) hI1_1 (zRb (by assumption:((zT ((rl.getD k default).id) mm).isSome==(((rl.getD k default).k:Int)==0))=false) (by assumption))⟩
   omega
  obtain ⟨o,ho⟩:=zNI (by assumption:(zT ((rl.getD k default).id) mm).isSome=true)
  have hk0:=zY5 (by assumption:((zT ((rl.getD k default).id) mm).isSome==(((rl.getD k default).k:Int)==0))=false) ho
  intro a w hs;rw [ho] at hs
  revert a w hs
  refine go 4 [0] [84,11,10,3,4,7,40,41,42] (.c (.s .z) .n) ⟨rfl,?_⟩
  refine ifG rfl (λc_17=>?_) (λc_17=>?_)
  ·
   refine go 3 [0] [90,88,3,4,7,40,41,42] (.c .z .n) ⟨rfl,?_⟩
   intro a w hs;refine zSK hs rfl rfl (.s (.s .z)) underlying180 underlying3 rfl ?_
   refine goL 2 [] [42,3,4,7,40,41] .n ⟨(by omega),?_⟩
   refine cl (·.drop (.c (.s (.s .z)) (.c (.s .z) .n))) ?_
   intro a w hs;refine ⟨_,?_,k+1,zFp ((rl.getD k default).id) mm,rfl,hs.sub (.c rfl (.c rfl (.c rfl (.c rfl (.c rfl (.c rfl .n)))))),by omega,zIB (by omega) hI1_1 (zSP ho (by assumption))⟩
   omega
  have hku:=zaP hbp.2 (by omega) ho hk0 (by assumption)
  intro a w hs
  refine zAQ [.p [] [],.p [] [],.p [1] [0],.p [] [1],.p [] [0],.v [4,3] (.tuple #[.agg #[zI (((zU o (rl.getD k default)).1).id),zI (((zU o (rl.getD k default)).1).p0),zI (((zU o (rl.getD k default)).1).p1),zI (((zU o (rl.getD k default)).1).p2),zI (((zU o (rl.getD k default)).1).v0),zI (((zU o (rl.getD k default)).1).v1),zI (((zU o (rl.getD k default)).1).v2),.int .u16 (((((zU o (rl.getD k default)).1).a).toNat:Nat):Int),bI (((zU o (rl.getD k default)).1).g)],nI ((zU o (rl.getD k default)).2)]),.p [5] [],.p [6] [],.p [6] [],.x [7,2,0] ⟨[mpr g9 (ekv mm)],[],[],λvs18=>True,λvs18=>[mpr g9 (ekv (zIa ((zU o (rl.getD k default)).1) mm))],none⟩] [] hs .n (.c (.s (.s .z)) .n) (.c .z (.c .z .n)) (by kernel_rfl) ⟨rfl,rfl,rfl,λ_ _ _ _ hm hs K=>zB (v:=.tuple #[.agg #[zI (((zU o (rl.getD k default)).1).id),zI (((zU o (rl.getD k default)).1).p0),zI (((zU o (rl.getD k default)).1).p1),zI (((zU o (rl.getD k default)).1).p2),zI (((zU o (rl.getD k default)).1).v0),zI (((zU o (rl.getD k default)).1).v1),zI (((zU o (rl.getD k default)).1).v2),.int .u16 (((((zU o (rl.getD k default)).1).a).toNat:Nat):Int),bI (((zU o (rl.getD k default)).1).g)],nI ((zU o (rl.getD k default)).2)]) hs (.c rfl (.c rfl .n)) call189 (zVs o (rl.getD k default) _) rfl (vk K),⟨(.c .z .n),by kernel_rfl,λ_=>rfl,rfl,rfl⟩,⟨?_,trivial⟩,?_⟩
  ·
   intro a_ w_ R_ rest_ vs18 hm hs ht hx
   have hs0:=hs.bare
   refine zMs (u:=((zU o (rl.getD k default)).1)) hs rfl rfl rfl .z (by first | rfl | exact hku) underlying180 underlying3 ?_;clear hs;intro a w hs
   exact wpList_nil ⟨rfl,.tuple #[],_,hs0,(.c (.c (.c .r))),hs,trivial⟩
  clear hs w a;intro vs18 a w hs hf
  clear hf
  revert a w hs
  refine goE 2 [] [42,3,4,7,40,41] .n ⟨(by omega),?_⟩
  refine cl (·.drop (.c (.s .z) (.c .z .n))) ?_
  refine cl (·.reorder (.c (.s (.s .z)) (.c .z (.c .z .n)))) ?_
  intro a w hs;refine ⟨_,?_,k+1,zIa ((zU o (rl.getD k default)).1) mm,rfl,hs.sub (.c rfl (.c rfl (.c rfl (.c rfl (.c rfl (.c rfl .n)))))),by omega,zIB (by omega) hI1_1 (zTF ho hk0 (by assumption))⟩
  omega
 refine go 1 [] [92,3,4,7] .n ?_
 intro a w hs;refine zXW hs rfl .z underlying180 rfl ?_
 refine goL 1 [] [94,3,4,7] .n ?_
 refine ifG rfl (λc_19=>?_) (λc_19=>?_)
 ·
  refine go 3 [0] [5,4] (.c (.s (.s .z)) .n) ⟨rfl,?_⟩
  have hE:aE t tm l gt gtm gb rl=4:=by first | exact zZv (by omega) | exact zZy (by omega) (by omega) (by omega) | exact zZ3 (by omega) (by omega) (by omega) (by omega) | (rw [zPp (by omega) hpre,← hwas];exact zIi (zD5 hsw hbp.2 (zGO (by omega) hI1_1 (zE2 (by assumption))))) | (rw [zPp (by omega) hpre,← hwas];obtain ⟨l3,q1,q2,q3⟩:=zDD hsw hbp.2 (zFM (by omega) hI1_1);exact zH3 q1 (by rw [← q2.length_eq];omega))
  have hS:aS t tm l gt gtm gb rl=⟨0,0,[]⟩:=zZ0 (by omega)
  refine cl (·.addNil 48 9) ?_
  intro a w hs;replace hs:=hs.rerow .z (m':=(aS t tm l gt gtm gb rl).l.length) (xs':=((aS t tm l gt gtm gb rl).l.flatMap zBI)) (by rw [hS];rfl) (by rw [hS];rfl)
  exact zBM hs rfl rfl rfl (.s .z) (.z (.c (.c (.c .n)))) isAgg46 sizeOf46 (.c (.s (.s (.s .z))) (.c (.s (.s .z)) (.c (.s .z) .n))) ⟨_,by rw [hE,hS]<;>rfl,rfl⟩
 refine go 1 [] [96,3,4] .n ?_
 intro a w hs;refine zL hs (.c rfl .n) call191 .n (zQt g9 _) rfl ?_;clear hs w a;rintro _ _ a w ⟨g20,rfl,rfl⟩ hs
 refine zL hs (.c rfl (.c rfl .n)) call190 (.c (.s .z) (.c .z .n)) (zPW g9 g20 mm _ (hs.mem.del (.s .z)) (hs.mem.del .z) (hs.mem.ndX (.c (.s .z) (.c .z .n))) (by omega)) rfl ?_;clear hs w a;rintro v21 _ a w ⟨l22,hp23,rfl⟩ hs
 have hk24:=hp23.1.length_eq
 revert a w hs
 refine goL 6 [0,0] [103,102,100,4] (.c (.s (.s (.s .z))) .n) ⟨rfl,rfl,?_⟩
 intro a w hs;refine zF1 (it:=Tryz.t46) (zs:=[zI 0,zI 0,.slice none 0 0]) (places:=[(0,1),(1,1),(2,1)]) hs (.c rfl (.c rfl (.c rfl .n))) underlying46 rfl rfl rfl rfl (.c rfl rfl (.z (.c .n)) (.c rfl rfl (.s (.z (.c .n))) (.c rfl (zK (hs.mem.del (.s .z))).isSl.lcells (.s (.s (.z (.c .n)))) .n))) rfl ?_
 intro a w hs;refine zAU hs rfl rfl (.s (.s (.s (.s .z)))) (.z (.c (.c (.c .n)))) (zF rfl (zF rfl (zF (zK (hs.mem.del (.s .z))).isSl.one zAX))) sizeOf46 rfl ?_
 refine goL 1 [] [5,4] .n ?_
 obtain ⟨l3,q1,q2,q3⟩:=zDD hsw hbp.2 (zFM (by omega) hI1_1)
 have q4:l22=l3:=zVC (hp23.1.trans q2) hp23.2 q3
 have q5:=q2.length_eq
 have hE:aE t tm l gt gtm gb rl=0:=by rw [zPp (by omega) hpre,← hwas];exact zce q1 (by omega)
 have hS:aS t tm l gt gtm gb rl=⟨gt,gtm,l22⟩:=by rw [zcB hE,← hwas,q1,q4];rfl
 refine cl (·.rerow (.s (.s .z)) (m':=(aS t tm l gt gtm gb rl).l.length) (xs':=((aS t tm l gt gtm gb rl).l.flatMap zBI)) (by rw [hS]) (by rw [hS])) ?_
 intro a w hs;exact zBM hs rfl rfl rfl (.s .z) (.z (.c (.c (.c .n)))) isAgg46 sizeOf46 (.c (.s (.s (.s (.s .z)))) (.c (.s (.s (.s .z))) (.c (.s (.s .z)) (.c (.s .z) .n)))) ⟨_,by rw [hE,hS]<;>rfl,rfl⟩
end Go.Proofs.YtljpfgacpofkpaaGreat
