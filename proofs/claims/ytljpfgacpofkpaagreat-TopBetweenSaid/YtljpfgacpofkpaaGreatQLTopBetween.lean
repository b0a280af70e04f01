import Derived.Test.YtljpfgacpofkpaaGreatQG8
import Derived.Test.YtljpfgacpofkpaaGreatQG24
import Derived.Test.YtljpfgacpofkpaaGreatQSxBasB
set_option linter.unusedVariables false
set_option linter.unusedSimpArgs false
namespace Go.Proofs.YtljpfgacpofkpaaGreat
open Tryz
open Go Go.Sx Go.RowKit
set_option maxRecDepth 4000
set_option maxHeartbeats 1000000
theorem zFz (c:zAS) (u:Value) (L:List EvR)  (w0:World) (hu:Rd w0 [] u 3 L.length (L.flatMap evV)) (hL:∀ x∈L,x.ok w0) (hno:Grt L∨zCb c≠0):Calls Tryz.prog 3 #[.agg #[zI c.ring,zI c.window,zI c.base,zI c.gain,zI c.least,zI c.most,zI c.slack,zI c.num,zI c.den,zI c.extra,.bool (c.curve)],u] w0 (zAh w0 (.bool true)):=by
 have hue:=hu.le
 simp only [maxLen] at hue
 refine zG (F0:=[(0,.agg #[zI c.ring,zI c.window,zI c.base,zI c.gain,zI c.least,zI c.most,zI c.slack,zI c.num,zI c.den,zI c.extra,.bool (c.curve)]),(1,u)]) func3 rfl rfl rfl (.c (.c .n)) (Mem.nil _) ?_
 refine go 4 [0,0] [19,18,1] .n (λg1=>⟨rfl,?_⟩)
 intro a w hs;refine zB (v:=.pointer (none)) hs (.c rfl (.c rfl .n)) call5 (zVS c _ L _ (hs.rd0 hu) (λx hx=>⟨(hL x hx).k,(hL x hx).at_,hs.rd0 (hL x hx).rd⟩) hno) rfl ?_
 refine goL 1 [] [5,1] .n ?_
 intro a w hs;refine zB (v:=.bool (true)) hs .n call6 (zHs _) rfl ?_
 refine goL 6 [] [] .n ?_
 intro a w hs;refine zB (v:=.bool (true)) hs .n call6 (zHs _) rfl ?_
 refine goL 1 [] [4] .n ?_
 refine cl (·.drop (.c .z .n)) ?_
 intro a w hs;exact fin hs rfl rfl ⟨rfl,rfl⟩
theorem zH8 (c:zAS) (u:Value) (L:List EvR)  (w0:World) (hu:Rd w0 [] u 3 L.length (L.flatMap evV)) (hL:∀ x∈L,x.ok w0) (hg:¬ Grt L) (hk:zCb c=0):Calls Tryz.prog 3 #[.agg #[zI c.ring,zI c.window,zI c.base,zI c.gain,zI c.least,zI c.most,zI c.slack,zI c.num,zI c.den,zI c.extra,.bool (c.curve)],u] w0 (zAh w0 (.bool true)):=by
 have hue:=hu.le
 simp only [maxLen] at hue
 have hL60:L.length≤60:=by unfold Grt at hg;omega
 have hkr:=zLo hk
 refine zG (F0:=[(0,.agg #[zI c.ring,zI c.window,zI c.base,zI c.gain,zI c.least,zI c.most,zI c.slack,zI c.num,zI c.den,zI c.extra,.bool (c.curve)]),(1,u)]) func3 rfl rfl rfl (.c (.c .n)) (Mem.nil _) ?_
 refine go 4 [0,0] [19,18,1] .n (λg1=>⟨rfl,?_⟩)
 intro a w hs;refine zL hs (.c rfl (.c rfl .n)) call5 .n (zUw c _ L _ (hs.rd0 hu) (λx hx=>⟨(hL x hx).k,(hL x hx).at_,hs.rd0 (hL x hx).rd⟩) hg hk) rfl ?_;clear hs w a;rintro _ _ a w ⟨g2,Y3,rfl,rfl,hY4⟩ hs
 revert a w hs
 refine goL 1 [] [5,1] .n ?_
 intro a w hs;refine zB (v:=.bool (true)) hs .n call6 (zHs _) rfl ?_
 refine goL 7 [] [28,5] .n ?_
 intro a w hs;refine zAG hs rfl (hs.rd0 hu).isSl underlying24 rfl ?_
 refine goL 1 [] [30,29,28,5] .n ?_
 intro a w hs;refine zCC (λmm_ a w=>∃ j:Nat,∃ Y:HA,∃ C:CS,mm_=L.length-j∧St 156 [(5,pt g2 0),(28,u),(29,nI L.length),(30,nI j)] w0 [] [Y,blk g1 [zI c.ring,zI c.window,zI c.base,zI c.gain,zI c.least,zI c.most,zI c.slack,zI c.num,zI c.den,zI c.extra,.bool (c.curve)] 23] a w∧j≤L.length∧Cli g2 c C Y∧C.ok c∧(∀ i,C.σ.n i≤j)∧C.fr≤j) ⟨0,Y3,(C0 c),rfl,hs.sub (.c rfl (.c rfl (.c rfl (.c rfl .n)))),by omega,hY4,(zbs hk),(λi=>Nat.le_refl 0),(Nat.le_refl 0)⟩ ?_
 clear hs w a;rintro mm_ a w ⟨j,Y,C,rfl,hs,hI1_0,hI1_1,hI1_2,hI1_3,hI1_4⟩
 revert a w hs
 refine go 1 [] [31,5,28,29,30] .n ?_
 refine ifG rfl (λc_5=>?_) (λc_5=>?_)
 ·
  refine go 0 [] [5,28,29,30] .n ?_
  intro a w hs;refine zBF (j:=j) hs rfl rfl (hs.rd0 hu) rfl (by omega) underlying24 sizeOf30 rfl ?_
  intro a w hs;refine zAx (cs:=evV (L.getD j default)) hs rfl (hs.rd0 hu) (zAZ zGw L j (by omega)) (by rw [zAN zGw];omega) (by omega) isAgg30 sizeOf30 rfl ?_
  have hxo:=hL _ (zMd (l:=L) (i:=j) (by omega));have hxk:=hxo.k;have hxa:=hxo.at_
  refine goL 4 [50,0] [36,35,7,5,28,29,30] .n (λg6=>⟨rfl,(zF rfl (zF rfl (zF (hL _ (zMd (by omega))).rd.isSl.one zAX))),rfl,?_⟩)
  intro a w hs;refine zL hs (.c rfl (.c rfl .n)) call7 (.c (.s .z) .n) (zbV hI1_1 hk hI1_2 (λi=>Nat.le_trans (hI1_3 i) (by omega)) (by omega) (L.getD j default) ⟨by omega,by omega⟩ _ (hs.mem.del (.s .z)) (hs.mem.rd1 (hL _ (zMd (by omega))).rd (.c (.s .z) .n)) ⟨by omega,by omega⟩) rfl ?_;clear hs w a;rintro _ _ a w ⟨v9,rfl,Y7,rfl,hY8⟩ hs
  revert a w hs
  refine goL 4 [] [8,39,38,7,5,28,29,30] .n (λg10=>?_)
  intro a w hs;refine zAU hs rfl rfl .z (.z (.c (.c (.c .n)))) (zF rfl (zF rfl (zF (zK (hs.mem.del (.s .z))).isSl.one zAX))) sizeOf33 rfl ?_
  refine goL 5 [0] [43,8,5,28,29,30] (.c (.s (.s (.s .z))) .n) ⟨rfl,?_⟩
  intro a w hs;refine zX (b:=!(((L.getD j default).k:Int)==1)) (λc_11=>?_) (λc_11=>?_)
  ·
   rw [c_11] at hs
   replace c_11:=zFW c_11
   replace c_11:=zAW c_11
   revert a w hs
   refine go 8 [] [30,5,28,29] .n ⟨(by omega),?_⟩
   refine cl (·.drop (.c (.s (.s .z)) (.c (.s .z) (.c .z .n)))) ?_
   intro a w hs;refine ⟨_,?_,(j+1),Y7,(cDo c C (L.getD j default)),rfl,hs.sub (.c rfl (.c rfl (.c rfl (.c rfl .n)))),by omega,hY8,(zSY hk ⟨by omega,by omega⟩ hI1_2),(λi=>Nat.le_trans (zXc _ _ _ i) (Nat.succ_le_succ (hI1_3 i))),(Nat.le_trans (zJn _ _ _) (Nat.succ_le_succ hI1_4))⟩
   omega
  rw [c_11] at hs
  replace c_11:=zFX c_11
  replace c_11:=eq_of_beq c_11
  revert a w hs
  refine go 2 [0] [45,43,8,5,28,29,30] (.c (.s .z) .n) ⟨rfl,?_⟩
  intro a w hs;refine zC hs rfl rfl rfl ?_
  refine zAG hs rfl (zK (hs.mem.del (.s (.s .z)))).isSl underlying31 rfl ?_
  refine goL 2 [] [48,8,5,28,29,30] .n ?_
  refine ifG rfl (λc_12=>?_) (λc_12=>?_)
  ·
   refine go 2 [] [30,5,28,29] .n ⟨(by omega),?_⟩
   refine cl (·.drop (.c (.s (.s .z)) (.c (.s .z) (.c .z .n)))) ?_
   intro a w hs;refine ⟨_,?_,(j+1),Y7,(cDo c C (L.getD j default)),rfl,hs.sub (.c rfl (.c rfl (.c rfl (.c rfl .n)))),by omega,hY8,(zSY hk ⟨by omega,by omega⟩ hI1_2),(λi=>Nat.le_trans (zXc _ _ _ i) (Nat.succ_le_succ (hI1_3 i))),(Nat.le_trans (zJn _ _ _) (Nat.succ_le_succ hI1_4))⟩
   omega
  have hk1:(L.getD j default).k=1:=by omega
  refine go 1 [] [49,8,5,28,29,30] .n ?_
  intro a w hs;refine zL hs (.c rfl .n) call8 .n (zVk hY8 _ (hs.mem.del (.s (.s (.s .z))))) rfl ?_;clear hs w a;rintro v13 _ a w ⟨K14,rfl,hK15⟩ hs
  have hkl_:K14.length≤64:=by have h1:=(Cli.oks hY8).le;have h2:=(Cli.oks hY8).m64;rw [← hK15,zAO] at h1;omega
  have hsl:=zSl c C (L.getD j default)
  revert a w hs
  refine goL 4 [0] [53,51,10,8,5,28,29,30] (.c (.s (.s .z)) .n) ⟨rfl,?_⟩
  intro a w hs;refine zB (v:=zI (arn K14 ((zV c C (L.getD j default)).time) K14.length)) hs (.c rfl (.c rfl .n)) call9 (zRO K14 (zEH (hs.mem.del (.s (.s .z)))) ((zV c C (L.getD j default)).time) _ _ (zK (hs.mem.del (.s .z)))) rfl ?_
  have har_:=zRL K14 ((zV c C (L.getD j default)).time) K14.length
  refine goL 3 [0] [56,11,10,8,5,28,29,30] (.c .z .n) ⟨rfl,?_⟩
  intro a w hs;refine zAG hs rfl (zK (hs.mem.del (.s (.s (.s (.s .z)))))).isSl underlying31 rfl ?_
  refine goL 1 [] [58,57,56,11,10,8,5,28,29,30] .n ?_
  intro a w hs;refine zCC (λmm_ a w=>∃ e:Nat,mm_=(zV c C (L.getD j default)).l.length-e∧St 156 [(5,pt g2 0),(8,pt g10 0),(10,v13),(11,zI (arn K14 ((zV c C (L.getD j default)).time) K14.length)),(28,u),(29,nI L.length),(30,nI j),(56,v9),(57,nI ((zV c C (L.getD j default)).l.length)),(58,nI e)] w0 [] [blk g10 [.bool ((zV c C (L.getD j default)).ready),zI ((zV c C (L.getD j default)).time),v9] 33,row v13 46 3 K14.length (K14.flatMap snV),rws 48 K14,blk g6 [zI ((L.getD j default).k),zI ((L.getD j default).at_),(L.getD j default).v] 30,row v9 43 6 ((zV c C (L.getD j default)).l.length) ((zV c C (L.getD j default)).l.flatMap zBk),Y7,blk g1 [zI c.ring,zI c.window,zI c.base,zI c.gain,zI c.least,zI c.most,zI c.slack,zI c.num,zI c.den,zI c.extra,.bool (c.curve)] 23] a w∧e≤(zV c C (L.getD j default)).l.length) ⟨0,rfl,hs.sub (.c rfl (.c rfl (.c rfl (.c rfl (.c rfl (.c rfl (.c rfl (.c rfl (.c rfl (.c rfl .n)))))))))),by omega⟩ ?_
  clear hs w a;rintro mm_ a w ⟨e,rfl,hs,hI2_0⟩
  revert a w hs
  refine go 1 [] [59,5,8,10,11,28,29,30,56,57,58] .n ?_
  refine ifG rfl (λc_16=>?_) (λc_16=>?_)
  ·
   refine go 0 [] [5,8,10,11,28,29,30,56,57,58] .n ?_
   intro a w hs;refine zBF (j:=e) hs rfl rfl (zK (hs.mem.del (.s (.s (.s (.s .z)))))) rfl (by omega) underlying31 sizeOf43 rfl ?_
   intro a w hs;refine zAx (cs:=zBk ((zV c C (L.getD j default)).l.getD e default)) hs rfl (zK (hs.mem.del (.s (.s (.s (.s .z)))))) (zAZ zLY (zV c C (L.getD j default)).l e (by omega)) (by rw [zAN zLY];omega) (by omega) isAgg43 sizeOf43 rfl ?_
   refine goL 6 [0,0] [65,13,5,8,10,11,28,29,30,56,57,58] .n (λg17=>⟨rfl,rfl,?_⟩)
   intro a w hs;refine zX (b:=!((((zV c C (L.getD j default)).l.getD e default).m:Int)==1)) (λc_18=>?_) (λc_18=>?_)
   ·
    rw [c_18] at hs
    replace c_18:=zFW c_18
    replace c_18:=zAW c_18
    revert a w hs
    refine goF 4 4 [0] [69,13,5,8,10,11,28,29,30,56,57,58] (.c .z .n) ⟨rfl,?_⟩
    refine go 0 [] [69,13,5,8,10,11,28,29,30,56,57,58] .n ?_
    refine ifG rfl (λc_19=>?_) (λc_19=>?_)
    ·
     refine go 2 [] [58,5,8,10,11,28,29,30,56,57] .n ⟨(by omega),?_⟩
     refine cl (·.drop (.c .z .n)) ?_
     intro a w hs;refine ⟨_,?_,(e+1),rfl,hs.sub (.c rfl (.c rfl (.c rfl (.c rfl (.c rfl (.c rfl (.c rfl (.c rfl (.c rfl (.c rfl .n)))))))))),by omega⟩
     omega
    obtain ⟨i,hB⟩:=zLi hk1 hK15 (by omega:e<(zV c C (L.getD j default)).l.length) (by omega)
    have hBl:=hB.lt;have hBe:=hB.le;have hBg:=hB.ge
    intro a w hs;rw [hB.at_] at hs
    revert a w hs
    refine go 0 [] [13,5,8,10,11,28,29,30,56,57,58] .n ?_
    intro a w hs
    refine zO (dcs [.p [] [],.v [0] (.bool (false)),.p [1] [],.p [2] [],.p [3,2] [],.p [2] [],.v [5,2] (nI K14.length),.v [6,4,2] (.bool (false)),.p [7,2] [],.p [8] [],.p [9] [],.p [9] [],.v [11,10,9] (.pointer (some (adr v13 (i*3)))),.v [12,9] (.pointer (some (adr v13 (i*3+1)))),.v [13,9] (zI ((K14.getD i default).tm)),.p [9] [],.p [15,9] [0],.v [16,14,9] (.bool (false)),.p [17,9] [],.p [18] [],.p [19] [],.p [19] [],.v [21,19] (nI (i+1)),.v [22,20,19] (.pointer (some (adr v13 ((i+1)*3)))),.v [23,19] (.pointer (some (adr v13 ((i+1)*3+1)))),.v [24,19] (zI ((K14.getD (i+1) default).tm)),.p [19] [],.p [26,19] [0]] [.v [27,25,19] (.bool (false)),.p [28,19] []]) [29] hs .n (.c (.s .z) .n) (by kernel_rfl) ⟨λ_ _ _ _ hm hs K=>zLU hs rfl rfl rfl (λa w hs=>wpList_nil (K _ _ (by rw [show (decide (((i:Nat):Int)<0))=false from decide_eq_false (by omega)] at hs;exact hs))),(by omega),λ_ _ _ _ hm hs K=>zC hs rfl rfl rfl (zAG hs rfl (zK (hm.del (.s (.s .z)))).isSl underlying37 rfl (vk K)),λ_ _ _ _ hm hs K=>zC hs rfl rfl rfl (zNS hs rfl rfl rfl (λa w hs=>wpList_nil (K _ _ (by rw [show (decide (((K14.length:Nat):Int)≤(((i:Nat):Int)+1)))=false from decide_eq_false (by omega)] at hs;exact hs)))),λ_ _ _ _ hm hs K=>zC hs rfl rfl rfl (zBF (j:=i) hs rfl rfl (zK (hm.del (.s (.s .z)))) rfl (by omega) underlying37 sizeOf46 rfl (vk K)),λ_ _ _ _ hm hs K=>zC hs rfl rfl rfl (zEU hs rfl (zK (hm.del (.s (.s .z)))) (by omega) underlying46 rfl sizeOf2 (by decide) (o:=i*3+1) rfl rfl (vk K)),λ_ _ _ _ hm hs K=>zC hs rfl rfl rfl (zBf (u:=zI ((K14.getD i default).tm)) hs rfl (zK (hm.del (.s (.s .z)))) ((zBt zAm K14 i 1 (by omega) (by decide)).trans rfl) isAgg2 rfl (vk K)),rfl,λ_ _ _ _ hm hs K=>zC hs rfl rfl rfl (zKt hs rfl rfl rfl (λa w hs=>wpList_nil (K _ _ (by rw [show (decide (((zV c C (L.getD j default)).time)<((K14.getD i default).tm)))=false from decide_eq_false (by omega)] at hs;exact hs)))),?_,λ_ _ _ _ hm hs K=>zC hs rfl rfl rfl (zBF (j:=(i+1)) hs rfl rfl (zK (hm.del (.s (.s .z)))) rfl (by omega) underlying37 sizeOf46 rfl (vk K)),λ_ _ _ _ hm hs K=>zC hs rfl rfl rfl (zEU hs rfl (zK (hm.del (.s (.s .z)))) (by omega) underlying46 rfl sizeOf2 (by decide) (o:=(i+1)*3+1) rfl rfl (vk K)),λ_ _ _ _ hm hs K=>zC hs rfl rfl rfl (zBf (u:=zI ((K14.getD (i+1) default).tm)) hs rfl (zK (hm.del (.s (.s .z)))) ((zBt zAm K14 (i+1) 1 (by omega) (by decide)).trans rfl) isAgg2 rfl (vk K)),rfl,λ_ _ _ _ hm hs K=>zC hs rfl rfl rfl (zLU hs rfl rfl rfl (λa w hs=>wpList_nil (K _ _ (by rw [show (decide (((K14.getD (i+1) default).tm)<((zV c C (L.getD j default)).time)))=false from decide_eq_false (by omega)] at hs;exact hs)))),⟨rfl,by kernel_rfl,λ_=>rfl,rfl,rfl,trivial⟩,λ_=>rfl,?_⟩
    ·
     intro a_ w_ R_ Q_ hm hs K_
     refine zC hs rfl rfl rfl ?_
     refine zIb hs rfl rfl (by omega) rfl ?_;clear hs;intro a w hs
     have hv_:(((i:Nat):Int)+1:Int)=(((i+1:Nat):Int):Int):=by omega
     rw [hv_] at hs;clear hv_
     exact wpList_nil (K_ _ _ hs)
    refine goE 1 [] [13,5,8,10,11,28,29,30,56,57,58] .n ?_
    intro a w hs
    refine zAQ [.p [] [],.p [] [],.v [1,0] (.pointer (some (adr v13 (i*3)))),.v [2] (.agg #[zI ((K14.getD i default).t),zI ((K14.getD i default).tm),(K14.getD i default).v]),.p [] [],.p [4] [0],.v [5,3] (.tuple #[.agg #[zI (((zT (((zV c C (L.getD j default)).l.getD e default).id) ((K14.getD i default).l)).getD zAA).id),zI (((zT (((zV c C (L.getD j default)).l.getD e default).id) ((K14.getD i default).l)).getD zAA).p0),zI (((zT (((zV c C (L.getD j default)).l.getD e default).id) ((K14.getD i default).l)).getD zAA).p1),zI (((zT (((zV c C (L.getD j default)).l.getD e default).id) ((K14.getD i default).l)).getD zAA).p2),zI (((zT (((zV c C (L.getD j default)).l.getD e default).id) ((K14.getD i default).l)).getD zAA).v0),zI (((zT (((zV c C (L.getD j default)).l.getD e default).id) ((K14.getD i default).l)).getD zAA).v1),zI (((zT (((zV c C (L.getD j default)).l.getD e default).id) ((K14.getD i default).l)).getD zAA).v2),.int .u16 (((((zT (((zV c C (L.getD j default)).l.getD e default).id) ((K14.getD i default).l)).getD zAA).a).toNat:Nat):Int),bI (((zT (((zV c C (L.getD j default)).l.getD e default).id) ((K14.getD i default).l)).getD zAA).g)],.bool ((zT (((zV c C (L.getD j default)).l.getD e default).id) ((K14.getD i default).l)).isSome)]),.p [6] [],.p [7] [],.p [7] [],.x [] ⟨[],[],[],λvs21=>vs21 10=pt (zBj (vs21 10)) 0,λvs21=>[blk (zBj (vs21 10)) [zI 0,zI 0,zI 0,zI 0,zI 0,zI 0,zI 0,.int .u16 (0),.int .u8 (0)] 48],none⟩,.x [8] ⟨[],[10],[10],λvs21=>True,λvs21=>[blk (zBj (vs21 10)) [zI (((zT (((zV c C (L.getD j default)).l.getD e default).id) ((K14.getD i default).l)).getD zAA).id),zI (((zT (((zV c C (L.getD j default)).l.getD e default).id) ((K14.getD i default).l)).getD zAA).p0),zI (((zT (((zV c C (L.getD j default)).l.getD e default).id) ((K14.getD i default).l)).getD zAA).p1),zI (((zT (((zV c C (L.getD j default)).l.getD e default).id) ((K14.getD i default).l)).getD zAA).p2),zI (((zT (((zV c C (L.getD j default)).l.getD e default).id) ((K14.getD i default).l)).getD zAA).v0),zI (((zT (((zV c C (L.getD j default)).l.getD e default).id) ((K14.getD i default).l)).getD zAA).v1),zI (((zT (((zV c C (L.getD j default)).l.getD e default).id) ((K14.getD i default).l)).getD zAA).v2),.int .u16 (((((zT (((zV c C (L.getD j default)).l.getD e default).id) ((K14.getD i default).l)).getD zAA).a).toNat:Nat):Int),bI (((zT (((zV c C (L.getD j default)).l.getD e default).id) ((K14.getD i default).l)).getD zAA).g)] 48],none⟩,.p [9] []] [12] hs .n .n (.c .z .n) (by kernel_rfl) ⟨λ_ _ _ _ hm hs K=>zBF (j:=i) hs rfl rfl (zK (hm.del (.s (.s .z)))) rfl (by omega) underlying37 sizeOf46 rfl (vk K),λ_ _ _ _ hm hs K=>zAx (cs:=snV (K14.getD i default)) hs rfl (zK (hm.del (.s (.s .z)))) (zAZ zAm K14 i (by omega)) (by rw [zAN zAm];omega) (by omega) isAgg46 sizeOf46 rfl (vk K),rfl,λ_ _ _ _ hm hs K=>zB (v:=.tuple #[.agg #[zI (((zT (((zV c C (L.getD j default)).l.getD e default).id) ((K14.getD i default).l)).getD zAA).id),zI (((zT (((zV c C (L.getD j default)).l.getD e default).id) ((K14.getD i default).l)).getD zAA).p0),zI (((zT (((zV c C (L.getD j default)).l.getD e default).id) ((K14.getD i default).l)).getD zAA).p1),zI (((zT (((zV c C (L.getD j default)).l.getD e default).id) ((K14.getD i default).l)).getD zAA).p2),zI (((zT (((zV c C (L.getD j default)).l.getD e default).id) ((K14.getD i default).l)).getD zAA).v0),zI (((zT (((zV c C (L.getD j default)).l.getD e default).id) ((K14.getD i default).l)).getD zAA).v1),zI (((zT (((zV c C (L.getD j default)).l.getD e default).id) ((K14.getD i default).l)).getD zAA).v2),.int .u16 (((((zT (((zV c C (L.getD j default)).l.getD e default).id) ((K14.getD i default).l)).getD zAA).a).toNat:Nat):Int),bI (((zT (((zV c C (L.getD j default)).l.getD e default).id) ((K14.getD i default).l)).getD zAA).g)],.bool ((zT (((zV c C (L.getD j default)).l.getD e default).id) ((K14.getD i default).l)).isSome)]) hs (.c rfl (.c rfl .n)) call10 (zIM ((K14.getD i default).t) ((K14.getD i default).tm) _ ((K14.getD i default).l) (((zV c C (L.getD j default)).l.getD e default).id) _ (zC4 (hm.del (.s (.s (.s .z)))) (.inl (zD1 (by omega))))) rfl (vk K),⟨.n,by kernel_rfl,λ_=>rfl,rfl,rfl⟩,⟨?_,?_,trivial⟩,?_⟩
    ·
     intro a_ w_ R_ rest_ vs21 hm hs ht hx
     have hs0:=hs.bare
     refine zBm (cs:=[zI 0,zI 0,zI 0,zI 0,zI 0,zI 0,zI 0,.int .u16 (0),.int .u8 (0)]) hs zeroValue48 rfl rfl ?_;clear hs;intro g22 a w hs
     exact wpList_nil ⟨rfl,_,_,hs0,.r,hs,rfl⟩
    ·
     intro a_ w_ R_ rest_ vs21 hm hs ht hx
     have t10:=ht 10 (zJ 13 _ (by kernel_rfl))
     have e10:_=some (vs21 10):=t10.val rfl
     rw [show vs21 10=pt (zBj (vs21 10)) 0 from t10.2.1] at e10
     replace hs:=hs.learn e10
     have hs0:=hs.bare
     refine zAU hs rfl rfl .z (.z (.c (.c (.c (.c (.c (.c (.c (.c (.c .n)))))))))) (zF rfl (zF rfl (zF rfl (zF rfl (zF rfl (zF rfl (zF rfl (zF rfl (zF rfl zAX))))))))) sizeOf48 rfl ?_;clear hs;intro a w hs
     exact wpList_nil ⟨rfl,.tuple #[],_,hs0,(.c (.c .r)),hs,trivial⟩
    clear hs w a;intro vs21 a w hs hf
    obtain ⟨e10,q10⟩:=hf 10 (by decide)
    replace e10:_=some (vs21 10):=e10.val rfl
    rw [show vs21 10=pt (zBj (vs21 10)) 0 from q10] at e10
    replace hs:=hs.learn e10;clear e10 q10
    generalize zBj (vs21 10)=g23 at hs
    clear hf
    revert a w hs
    refine goE 0 [] [14,15,13,5,8,10,11,28,29,30,56,57,58] .n ?_
    intro a w hs
    refine zAQ [.p [] [],.p [] [],.v [1] (nI (i+1)),.v [2,0] (.pointer (some (adr v13 ((i+1)*3)))),.v [3] (.agg #[zI ((K14.getD (i+1) default).t),zI ((K14.getD (i+1) default).tm),(K14.getD (i+1) default).v]),.p [] [],.p [5] [0],.v [6,4] (.tuple #[.agg #[zI (((zT (((zV c C (L.getD j default)).l.getD e default).id) ((K14.getD (i+1) default).l)).getD zAA).id),zI (((zT (((zV c C (L.getD j default)).l.getD e default).id) ((K14.getD (i+1) default).l)).getD zAA).p0),zI (((zT (((zV c C (L.getD j default)).l.getD e default).id) ((K14.getD (i+1) default).l)).getD zAA).p1),zI (((zT (((zV c C (L.getD j default)).l.getD e default).id) ((K14.getD (i+1) default).l)).getD zAA).p2),zI (((zT (((zV c C (L.getD j default)).l.getD e default).id) ((K14.getD (i+1) default).l)).getD zAA).v0),zI (((zT (((zV c C (L.getD j default)).l.getD e default).id) ((K14.getD (i+1) default).l)).getD zAA).v1),zI (((zT (((zV c C (L.getD j default)).l.getD e default).id) ((K14.getD (i+1) default).l)).getD zAA).v2),.int .u16 (((((zT (((zV c C (L.getD j default)).l.getD e default).id) ((K14.getD (i+1) default).l)).getD zAA).a).toNat:Nat):Int),bI (((zT (((zV c C (L.getD j default)).l.getD e default).id) ((K14.getD (i+1) default).l)).getD zAA).g)],.bool ((zT (((zV c C (L.getD j default)).l.getD e default).id) ((K14.getD (i+1) default).l)).isSome)]),.p [7] [],.p [8] [],.p [8] [],.x [] ⟨[],[],[],λvs24=>vs24 11=pt (zBj (vs24 11)) 0,λvs24=>[blk (zBj (vs24 11)) [zI 0,zI 0,zI 0,zI 0,zI 0,zI 0,zI 0,.int .u16 (0),.int .u8 (0)] 48],none⟩,.x [9] ⟨[],[11],[11],λvs24=>True,λvs24=>[blk (zBj (vs24 11)) [zI (((zT (((zV c C (L.getD j default)).l.getD e default).id) ((K14.getD (i+1) default).l)).getD zAA).id),zI (((zT (((zV c C (L.getD j default)).l.getD e default).id) ((K14.getD (i+1) default).l)).getD zAA).p0),zI (((zT (((zV c C (L.getD j default)).l.getD e default).id) ((K14.getD (i+1) default).l)).getD zAA).p1),zI (((zT (((zV c C (L.getD j default)).l.getD e default).id) ((K14.getD (i+1) default).l)).getD zAA).p2),zI (((zT (((zV c C (L.getD j default)).l.getD e default).id) ((K14.getD (i+1) default).l)).getD zAA).v0),zI (((zT (((zV c C (L.getD j default)).l.getD e default).id) ((K14.getD (i+1) default).l)).getD zAA).v1),zI (((zT (((zV c C (L.getD j default)).l.getD e default).id) ((K14.getD (i+1) default).l)).getD zAA).v2),.int .u16 (((((zT (((zV c C (L.getD j default)).l.getD e default).id) ((K14.getD (i+1) default).l)).getD zAA).a).toNat:Nat):Int),bI (((zT (((zV c C (L.getD j default)).l.getD e default).id) ((K14.getD (i+1) default).l)).getD zAA).g)] 48],none⟩,.p [10] []] [13] hs .n .n (.c .z .n) (by kernel_rfl) ⟨?_,λ_ _ _ _ hm hs K=>zBF (j:=(i+1)) hs rfl rfl (zK (hm.del (.s (.s .z)))) rfl (by omega) underlying37 sizeOf46 rfl (vk K),λ_ _ _ _ hm hs K=>zAx (cs:=snV (K14.getD (i+1) default)) hs rfl (zK (hm.del (.s (.s .z)))) (zAZ zAm K14 (i+1) (by omega)) (by rw [zAN zAm];omega) (by omega) isAgg46 sizeOf46 rfl (vk K),rfl,λ_ _ _ _ hm hs K=>zB (v:=.tuple #[.agg #[zI (((zT (((zV c C (L.getD j default)).l.getD e default).id) ((K14.getD (i+1) default).l)).getD zAA).id),zI (((zT (((zV c C (L.getD j default)).l.getD e default).id) ((K14.getD (i+1) default).l)).getD zAA).p0),zI (((zT (((zV c C (L.getD j default)).l.getD e default).id) ((K14.getD (i+1) default).l)).getD zAA).p1),zI (((zT (((zV c C (L.getD j default)).l.getD e default).id) ((K14.getD (i+1) default).l)).getD zAA).p2),zI (((zT (((zV c C (L.getD j default)).l.getD e default).id) ((K14.getD (i+1) default).l)).getD zAA).v0),zI (((zT (((zV c C (L.getD j default)).l.getD e default).id) ((K14.getD (i+1) default).l)).getD zAA).v1),zI (((zT (((zV c C (L.getD j default)).l.getD e default).id) ((K14.getD (i+1) default).l)).getD zAA).v2),.int .u16 (((((zT (((zV c C (L.getD j default)).l.getD e default).id) ((K14.getD (i+1) default).l)).getD zAA).a).toNat:Nat):Int),bI (((zT (((zV c C (L.getD j default)).l.getD e default).id) ((K14.getD (i+1) default).l)).getD zAA).g)],.bool ((zT (((zV c C (L.getD j default)).l.getD e default).id) ((K14.getD (i+1) default).l)).isSome)]) hs (.c rfl (.c rfl .n)) call10 (zIM ((K14.getD (i+1) default).t) ((K14.getD (i+1) default).tm) _ ((K14.getD (i+1) default).l) (((zV c C (L.getD j default)).l.getD e default).id) _ (zC4 (hm.del (.s (.s (.s .z)))) (.inl (zD1 (by omega))))) rfl (vk K),⟨.n,by kernel_rfl,λ_=>rfl,rfl,rfl⟩,⟨?_,?_,trivial⟩,?_⟩
    ·
     intro a_ w_ R_ Q_ hm hs K_
     refine zIb hs rfl rfl (by omega) rfl ?_;clear hs;intro a w hs
     have hv_:(((i:Nat):Int)+1:Int)=(((i+1:Nat):Int):Int):=by omega
     rw [hv_] at hs;clear hv_
     exact wpList_nil (K_ _ _ hs)
    ·
     intro a_ w_ R_ rest_ vs24 hm hs ht hx
     have hs0:=hs.bare
     refine zBm (cs:=[zI 0,zI 0,zI 0,zI 0,zI 0,zI 0,zI 0,.int .u16 (0),.int .u8 (0)]) hs zeroValue48 rfl rfl ?_;clear hs;intro g25 a w hs
     exact wpList_nil ⟨rfl,_,_,hs0,.r,hs,rfl⟩
    ·
     intro a_ w_ R_ rest_ vs24 hm hs ht hx
     have t11:=ht 11 (zJ 14 _ (by kernel_rfl))
     have e11:_=some (vs24 11):=t11.val rfl
     rw [show vs24 11=pt (zBj (vs24 11)) 0 from t11.2.1] at e11
     replace hs:=hs.learn e11
     have hs0:=hs.bare
     refine zAU hs rfl rfl .z (.z (.c (.c (.c (.c (.c (.c (.c (.c (.c .n)))))))))) (zF rfl (zF rfl (zF rfl (zF rfl (zF rfl (zF rfl (zF rfl (zF rfl (zF rfl zAX))))))))) sizeOf48 rfl ?_;clear hs;intro a w hs
     exact wpList_nil ⟨rfl,.tuple #[],_,hs0,(.c (.c .r)),hs,trivial⟩
    clear hs w a;intro vs24 a w hs hf
    obtain ⟨e11,q11⟩:=hf 11 (by decide)
    replace e11:_=some (vs24 11):=e11.val rfl
    rw [show vs24 11=pt (zBj (vs24 11)) 0 from q11] at e11
    replace hs:=hs.learn e11;clear e11 q11
    generalize zBj (vs24 11)=g26 at hs
    clear hf
    revert a w hs
    refine goE 2 [] [122,16,17,14,13,5,8,10,11,28,29,30,56,57,58] .n ?_
    have hb_:(!((zT (((zV c C (L.getD j default)).l.getD e default).id) ((K14.getD i default).l)).isSome))=false:=by rw [hB.a];rfl
    intro a w hs;rw [hb_] at hs;clear hb_
    revert a w hs
    refine go 3 [] [125,123,16,14,13,5,8,10,11,28,29,30,56,57,58] .n ?_
    have hb_:(!((zT (((zV c C (L.getD j default)).l.getD e default).id) ((K14.getD (i+1) default).l)).isSome))=false:=by rw [hB.b];rfl
    intro a w hs;rw [hb_] at hs;clear hb_
    revert a w hs
    refine go 7 [0,1] [132,127,16,14,13,5,8,10,11,28,29,30,56,57,58] (.c (.s (.s (.s (.s (.s (.s (.s (.s .z)))))))) (.c (.s (.s (.s (.s (.s (.s (.s (.s .z)))))))) .n)) ⟨rfl,rfl,?_⟩
    have hb_:(!(((((((zT (((zV c C (L.getD j default)).l.getD e default).id) ((K14.getD i default).l)).getD zAA).g).toNat:Nat):Int):Int)==(((((zT (((zV c C (L.getD j default)).l.getD e default).id) ((K14.getD (i+1) default).l)).getD zAA).g).toNat:Nat):Int)))=false:=zcn hB.g
    intro a w hs;rw [hb_] at hs;clear hb_
    revert a w hs
    refine go 8 [0,1,2] [140,138,136,134,16,14,13,5,8,10,11,28,29,30,56,57,58] (.c (.s (.s .z)) (.c .z (.c .z .n))) ⟨rfl,rfl,rfl,?_⟩
    intro a w hs;refine zC hs rfl rfl rfl ?_
    refine zB (v:=.bool ((zAI (((zV c C (L.getD j default)).l.getD e default).p0) (((zT (((zV c C (L.getD j default)).l.getD e default).id) ((K14.getD i default).l)).getD zAA).p0) (((zT (((zV c C (L.getD j default)).l.getD e default).id) ((K14.getD (i+1) default).l)).getD zAA).p0):Int)==(((zV c C (L.getD j default)).l.getD e default).p0) && (zAI (((zV c C (L.getD j default)).l.getD e default).p1) (((zT (((zV c C (L.getD j default)).l.getD e default).id) ((K14.getD i default).l)).getD zAA).p1) (((zT (((zV c C (L.getD j default)).l.getD e default).id) ((K14.getD (i+1) default).l)).getD zAA).p1):Int)==(((zV c C (L.getD j default)).l.getD e default).p1) && (zAI (((zV c C (L.getD j default)).l.getD e default).p2) (((zT (((zV c C (L.getD j default)).l.getD e default).id) ((K14.getD i default).l)).getD zAA).p2) (((zT (((zV c C (L.getD j default)).l.getD e default).id) ((K14.getD (i+1) default).l)).getD zAA).p2):Int)==(((zV c C (L.getD j default)).l.getD e default).p2))) hs (.c rfl (.c rfl (.c rfl .n))) call11 (zRP (((zV c C (L.getD j default)).l.getD e default).p0) (((zV c C (L.getD j default)).l.getD e default).p1) (((zV c C (L.getD j default)).l.getD e default).p2) (((zT (((zV c C (L.getD j default)).l.getD e default).id) ((K14.getD i default).l)).getD zAA).p0) (((zT (((zV c C (L.getD j default)).l.getD e default).id) ((K14.getD i default).l)).getD zAA).p1) (((zT (((zV c C (L.getD j default)).l.getD e default).id) ((K14.getD i default).l)).getD zAA).p2) (((zT (((zV c C (L.getD j default)).l.getD e default).id) ((K14.getD (i+1) default).l)).getD zAA).p0) (((zT (((zV c C (L.getD j default)).l.getD e default).id) ((K14.getD (i+1) default).l)).getD zAA).p1) (((zT (((zV c C (L.getD j default)).l.getD e default).id) ((K14.getD (i+1) default).l)).getD zAA).p2) _) rfl ?_
    refine goL 1 [] [142,134,16,14,13,5,8,10,11,28,29,30,56,57,58] .n ?_
    have hb_:(!((zAI (((zV c C (L.getD j default)).l.getD e default).p0) (((zT (((zV c C (L.getD j default)).l.getD e default).id) ((K14.getD i default).l)).getD zAA).p0) (((zT (((zV c C (L.getD j default)).l.getD e default).id) ((K14.getD (i+1) default).l)).getD zAA).p0):Int)==(((zV c C (L.getD j default)).l.getD e default).p0) && (zAI (((zV c C (L.getD j default)).l.getD e default).p1) (((zT (((zV c C (L.getD j default)).l.getD e default).id) ((K14.getD i default).l)).getD zAA).p1) (((zT (((zV c C (L.getD j default)).l.getD e default).id) ((K14.getD (i+1) default).l)).getD zAA).p1):Int)==(((zV c C (L.getD j default)).l.getD e default).p1) && (zAI (((zV c C (L.getD j default)).l.getD e default).p2) (((zT (((zV c C (L.getD j default)).l.getD e default).id) ((K14.getD i default).l)).getD zAA).p2) (((zT (((zV c C (L.getD j default)).l.getD e default).id) ((K14.getD (i+1) default).l)).getD zAA).p2):Int)==(((zV c C (L.getD j default)).l.getD e default).p2)))=false:=by rw [hB.p0,hB.p1,hB.p2];simp
    intro a w hs;rw [hb_] at hs;clear hb_
    revert a w hs
    refine go 8 [0,1,2] [150,148,146,144,5,8,10,11,28,29,30,56,57,58] (.c .z (.c .z (.c .z .n))) ⟨rfl,rfl,rfl,?_⟩
    intro a w hs;refine zC hs rfl rfl rfl ?_
    refine zB (v:=.bool (zPo (((zV c C (L.getD j default)).l.getD e default).a) (((zT (((zV c C (L.getD j default)).l.getD e default).id) ((K14.getD i default).l)).getD zAA).a) (((zT (((zV c C (L.getD j default)).l.getD e default).id) ((K14.getD (i+1) default).l)).getD zAA).a))) hs (.c rfl (.c rfl (.c rfl .n))) call12 (zTB (((zV c C (L.getD j default)).l.getD e default).a) (((zT (((zV c C (L.getD j default)).l.getD e default).id) ((K14.getD i default).l)).getD zAA).a) (((zT (((zV c C (L.getD j default)).l.getD e default).id) ((K14.getD (i+1) default).l)).getD zAA).a) _) rfl ?_
    refine goL 1 [] [152,144,5,8,10,11,28,29,30,56,57,58] .n ?_
    have hb_:(!(zPo (((zV c C (L.getD j default)).l.getD e default).a) (((zT (((zV c C (L.getD j default)).l.getD e default).id) ((K14.getD i default).l)).getD zAA).a) (((zT (((zV c C (L.getD j default)).l.getD e default).id) ((K14.getD (i+1) default).l)).getD zAA).a)))=false:=by rw [hB.an];rfl
    intro a w hs;rw [hb_] at hs;clear hb_
    revert a w hs
    refine go 4 [] [58,5,8,10,11,28,29,30,56,57] .n ⟨(by omega),?_⟩
    intro a w hs;rw [← hB.at_] at hs
    replace hs:=hs.drop (.c (.s (.s .z)) (.c (.s .z) (.c .z .n)))
    refine ⟨_,?_,(e+1),rfl,hs.sub (.c rfl (.c rfl (.c rfl (.c rfl (.c rfl (.c rfl (.c rfl (.c rfl (.c rfl (.c rfl .n)))))))))),by omega⟩
    omega
   rw [c_18] at hs
   replace c_18:=zFX c_18
   replace c_18:=eq_of_beq c_18
   revert a w hs
   refine goF 4 4 [] [69,13,5,8,10,11,28,29,30,56,57,58] .n ?_
   obtain ⟨i,hB⟩:=zLi hk1 hK15 (by omega:e<(zV c C (L.getD j default)).l.length) (by omega)
   have hBl:=hB.lt;have hBe:=hB.le;have hBg:=hB.ge
   intro a w hs;rw [hB.at_] at hs
   revert a w hs
   refine go 1 [] [13,5,8,10,11,28,29,30,56,57,58] .n ?_
   intro a w hs
   refine zO (dcs [.p [] [],.v [0] (.bool (false)),.p [1] [],.p [2] [],.p [3,2] [],.p [2] [],.v [5,2] (nI K14.length),.v [6,4,2] (.bool (false)),.p [7,2] [],.p [8] [],.p [9] [],.p [9] [],.v [11,10,9] (.pointer (some (adr v13 (i*3)))),.v [12,9] (.pointer (some (adr v13 (i*3+1)))),.v [13,9] (zI ((K14.getD i default).tm)),.p [9] [],.p [15,9] [0],.v [16,14,9] (.bool (false)),.p [17,9] [],.p [18] [],.p [19] [],.p [19] [],.v [21,19] (nI (i+1)),.v [22,20,19] (.pointer (some (adr v13 ((i+1)*3)))),.v [23,19] (.pointer (some (adr v13 ((i+1)*3+1)))),.v [24,19] (zI ((K14.getD (i+1) default).tm)),.p [19] [],.p [26,19] [0]] [.v [27,25,19] (.bool (false)),.p [28,19] []]) [29] hs .n (.c (.s .z) .n) (by kernel_rfl) ⟨λ_ _ _ _ hm hs K=>zLU hs rfl rfl rfl (λa w hs=>wpList_nil (K _ _ (by rw [show (decide (((i:Nat):Int)<0))=false from decide_eq_false (by omega)] at hs;exact hs))),(by omega),λ_ _ _ _ hm hs K=>zC hs rfl rfl rfl (zAG hs rfl (zK (hm.del (.s (.s .z)))).isSl underlying37 rfl (vk K)),λ_ _ _ _ hm hs K=>zC hs rfl rfl rfl (zNS hs rfl rfl rfl (λa w hs=>wpList_nil (K _ _ (by rw [show (decide (((K14.length:Nat):Int)≤(((i:Nat):Int)+1)))=false from decide_eq_false (by omega)] at hs;exact hs)))),λ_ _ _ _ hm hs K=>zC hs rfl rfl rfl (zBF (j:=i) hs rfl rfl (zK (hm.del (.s (.s .z)))) rfl (by omega) underlying37 sizeOf46 rfl (vk K)),λ_ _ _ _ hm hs K=>zC hs rfl rfl rfl (zEU hs rfl (zK (hm.del (.s (.s .z)))) (by omega) underlying46 rfl sizeOf2 (by decide) (o:=i*3+1) rfl rfl (vk K)),λ_ _ _ _ hm hs K=>zC hs rfl rfl rfl (zBf (u:=zI ((K14.getD i default).tm)) hs rfl (zK (hm.del (.s (.s .z)))) ((zBt zAm K14 i 1 (by omega) (by decide)).trans rfl) isAgg2 rfl (vk K)),rfl,λ_ _ _ _ hm hs K=>zC hs rfl rfl rfl (zKt hs rfl rfl rfl (λa w hs=>wpList_nil (K _ _ (by rw [show (decide (((zV c C (L.getD j default)).time)<((K14.getD i default).tm)))=false from decide_eq_false (by omega)] at hs;exact hs)))),?_,λ_ _ _ _ hm hs K=>zC hs rfl rfl rfl (zBF (j:=(i+1)) hs rfl rfl (zK (hm.del (.s (.s .z)))) rfl (by omega) underlying37 sizeOf46 rfl (vk K)),λ_ _ _ _ hm hs K=>zC hs rfl rfl rfl (zEU hs rfl (zK (hm.del (.s (.s .z)))) (by omega) underlying46 rfl sizeOf2 (by decide) (o:=(i+1)*3+1) rfl rfl (vk K)),λ_ _ _ _ hm hs K=>zC hs rfl rfl rfl (zBf (u:=zI ((K14.getD (i+1) default).tm)) hs rfl (zK (hm.del (.s (.s .z)))) ((zBt zAm K14 (i+1) 1 (by omega) (by decide)).trans rfl) isAgg2 rfl (vk K)),rfl,λ_ _ _ _ hm hs K=>zC hs rfl rfl rfl (zLU hs rfl rfl rfl (λa w hs=>wpList_nil (K _ _ (by rw [show (decide (((K14.getD (i+1) default).tm)<((zV c C (L.getD j default)).time)))=false from decide_eq_false (by omega)] at hs;exact hs)))),⟨rfl,by kernel_rfl,λ_=>rfl,rfl,rfl,trivial⟩,λ_=>rfl,?_⟩
   ·
    intro a_ w_ R_ Q_ hm hs K_
    refine zC hs rfl rfl rfl ?_
    refine zIb hs rfl rfl (by omega) rfl ?_;clear hs;intro a w hs
    have hv_:(((i:Nat):Int)+1:Int)=(((i+1:Nat):Int):Int):=by omega
    rw [hv_] at hs;clear hv_
    exact wpList_nil (K_ _ _ hs)
   refine goE 1 [] [13,5,8,10,11,28,29,30,56,57,58] .n ?_
   intro a w hs
   refine zAQ [.p [] [],.p [] [],.v [1,0] (.pointer (some (adr v13 (i*3)))),.v [2] (.agg #[zI ((K14.getD i default).t),zI ((K14.getD i default).tm),(K14.getD i default).v]),.p [] [],.p [4] [0],.v [5,3] (.tuple #[.agg #[zI (((zT (((zV c C (L.getD j default)).l.getD e default).id) ((K14.getD i default).l)).getD zAA).id),zI (((zT (((zV c C (L.getD j default)).l.getD e default).id) ((K14.getD i default).l)).getD zAA).p0),zI (((zT (((zV c C (L.getD j default)).l.getD e default).id) ((K14.getD i default).l)).getD zAA).p1),zI (((zT (((zV c C (L.getD j default)).l.getD e default).id) ((K14.getD i default).l)).getD zAA).p2),zI (((zT (((zV c C (L.getD j default)).l.getD e default).id) ((K14.getD i default).l)).getD zAA).v0),zI (((zT (((zV c C (L.getD j default)).l.getD e default).id) ((K14.getD i default).l)).getD zAA).v1),zI (((zT (((zV c C (L.getD j default)).l.getD e default).id) ((K14.getD i default).l)).getD zAA).v2),.int .u16 (((((zT (((zV c C (L.getD j default)).l.getD e default).id) ((K14.getD i default).l)).getD zAA).a).toNat:Nat):Int),bI (((zT (((zV c C (L.getD j default)).l.getD e default).id) ((K14.getD i default).l)).getD zAA).g)],.bool ((zT (((zV c C (L.getD j default)).l.getD e default).id) ((K14.getD i default).l)).isSome)]),.p [6] [],.p [7] [],.p [7] [],.x [] ⟨[],[],[],λvs28=>vs28 10=pt (zBj (vs28 10)) 0,λvs28=>[blk (zBj (vs28 10)) [zI 0,zI 0,zI 0,zI 0,zI 0,zI 0,zI 0,.int .u16 (0),.int .u8 (0)] 48],none⟩,.x [8] ⟨[],[10],[10],λvs28=>True,λvs28=>[blk (zBj (vs28 10)) [zI (((zT (((zV c C (L.getD j default)).l.getD e default).id) ((K14.getD i default).l)).getD zAA).id),zI (((zT (((zV c C (L.getD j default)).l.getD e default).id) ((K14.getD i default).l)).getD zAA).p0),zI (((zT (((zV c C (L.getD j default)).l.getD e default).id) ((K14.getD i default).l)).getD zAA).p1),zI (((zT (((zV c C (L.getD j default)).l.getD e default).id) ((K14.getD i default).l)).getD zAA).p2),zI (((zT (((zV c C (L.getD j default)).l.getD e default).id) ((K14.getD i default).l)).getD zAA).v0),zI (((zT (((zV c C (L.getD j default)).l.getD e default).id) ((K14.getD i default).l)).getD zAA).v1),zI (((zT (((zV c C (L.getD j default)).l.getD e default).id) ((K14.getD i default).l)).getD zAA).v2),.int .u16 (((((zT (((zV c C (L.getD j default)).l.getD e default).id) ((K14.getD i default).l)).getD zAA).a).toNat:Nat):Int),bI (((zT (((zV c C (L.getD j default)).l.getD e default).id) ((K14.getD i default).l)).getD zAA).g)] 48],none⟩,.p [9] []] [12] hs .n .n (.c .z .n) (by kernel_rfl) ⟨λ_ _ _ _ hm hs K=>zBF (j:=i) hs rfl rfl (zK (hm.del (.s (.s .z)))) rfl (by omega) underlying37 sizeOf46 rfl (vk K),λ_ _ _ _ hm hs K=>zAx (cs:=snV (K14.getD i default)) hs rfl (zK (hm.del (.s (.s .z)))) (zAZ zAm K14 i (by omega)) (by rw [zAN zAm];omega) (by omega) isAgg46 sizeOf46 rfl (vk K),rfl,λ_ _ _ _ hm hs K=>zB (v:=.tuple #[.agg #[zI (((zT (((zV c C (L.getD j default)).l.getD e default).id) ((K14.getD i default).l)).getD zAA).id),zI (((zT (((zV c C (L.getD j default)).l.getD e default).id) ((K14.getD i default).l)).getD zAA).p0),zI (((zT (((zV c C (L.getD j default)).l.getD e default).id) ((K14.getD i default).l)).getD zAA).p1),zI (((zT (((zV c C (L.getD j default)).l.getD e default).id) ((K14.getD i default).l)).getD zAA).p2),zI (((zT (((zV c C (L.getD j default)).l.getD e default).id) ((K14.getD i default).l)).getD zAA).v0),zI (((zT (((zV c C (L.getD j default)).l.getD e default).id) ((K14.getD i default).l)).getD zAA).v1),zI (((zT (((zV c C (L.getD j default)).l.getD e default).id) ((K14.getD i default).l)).getD zAA).v2),.int .u16 (((((zT (((zV c C (L.getD j default)).l.getD e default).id) ((K14.getD i default).l)).getD zAA).a).toNat:Nat):Int),bI (((zT (((zV c C (L.getD j default)).l.getD e default).id) ((K14.getD i default).l)).getD zAA).g)],.bool ((zT (((zV c C (L.getD j default)).l.getD e default).id) ((K14.getD i default).l)).isSome)]) hs (.c rfl (.c rfl .n)) call10 (zIM ((K14.getD i default).t) ((K14.getD i default).tm) _ ((K14.getD i default).l) (((zV c C (L.getD j default)).l.getD e default).id) _ (zC4 (hm.del (.s (.s (.s .z)))) (.inl (zD1 (by omega))))) rfl (vk K),⟨.n,by kernel_rfl,λ_=>rfl,rfl,rfl⟩,⟨?_,?_,trivial⟩,?_⟩
   ·
    intro a_ w_ R_ rest_ vs28 hm hs ht hx
    have hs0:=hs.bare
    refine zBm (cs:=[zI 0,zI 0,zI 0,zI 0,zI 0,zI 0,zI 0,.int .u16 (0),.int .u8 (0)]) hs zeroValue48 rfl rfl ?_;clear hs;intro g29 a w hs
    exact wpList_nil ⟨rfl,_,_,hs0,.r,hs,rfl⟩
   ·
    intro a_ w_ R_ rest_ vs28 hm hs ht hx
    have t10:=ht 10 (zJ 13 _ (by kernel_rfl))
    have e10:_=some (vs28 10):=t10.val rfl
    rw [show vs28 10=pt (zBj (vs28 10)) 0 from t10.2.1] at e10
    replace hs:=hs.learn e10
    have hs0:=hs.bare
    refine zAU hs rfl rfl .z (.z (.c (.c (.c (.c (.c (.c (.c (.c (.c .n)))))))))) (zF rfl (zF rfl (zF rfl (zF rfl (zF rfl (zF rfl (zF rfl (zF rfl (zF rfl zAX))))))))) sizeOf48 rfl ?_;clear hs;intro a w hs
    exact wpList_nil ⟨rfl,.tuple #[],_,hs0,(.c (.c .r)),hs,trivial⟩
   clear hs w a;intro vs28 a w hs hf
   obtain ⟨e10,q10⟩:=hf 10 (by decide)
   replace e10:_=some (vs28 10):=e10.val rfl
   rw [show vs28 10=pt (zBj (vs28 10)) 0 from q10] at e10
   replace hs:=hs.learn e10;clear e10 q10
   generalize zBj (vs28 10)=g30 at hs
   clear hf
   revert a w hs
   refine goE 0 [] [14,15,13,5,8,10,11,28,29,30,56,57,58] .n ?_
   intro a w hs
   refine zAQ [.p [] [],.p [] [],.v [1] (nI (i+1)),.v [2,0] (.pointer (some (adr v13 ((i+1)*3)))),.v [3] (.agg #[zI ((K14.getD (i+1) default).t),zI ((K14.getD (i+1) default).tm),(K14.getD (i+1) default).v]),.p [] [],.p [5] [0],.v [6,4] (.tuple #[.agg #[zI (((zT (((zV c C (L.getD j default)).l.getD e default).id) ((K14.getD (i+1) default).l)).getD zAA).id),zI (((zT (((zV c C (L.getD j default)).l.getD e default).id) ((K14.getD (i+1) default).l)).getD zAA).p0),zI (((zT (((zV c C (L.getD j default)).l.getD e default).id) ((K14.getD (i+1) default).l)).getD zAA).p1),zI (((zT (((zV c C (L.getD j default)).l.getD e default).id) ((K14.getD (i+1) default).l)).getD zAA).p2),zI (((zT (((zV c C (L.getD j default)).l.getD e default).id) ((K14.getD (i+1) default).l)).getD zAA).v0),zI (((zT (((zV c C (L.getD j default)).l.getD e default).id) ((K14.getD (i+1) default).l)).getD zAA).v1),zI (((zT (((zV c C (L.getD j default)).l.getD e default).id) ((K14.getD (i+1) default).l)).getD zAA).v2),.int .u16 (((((zT (((zV c C (L.getD j default)).l.getD e default).id) ((K14.getD (i+1) default).l)).getD zAA).a).toNat:Nat):Int),bI (((zT (((zV c C (L.getD j default)).l.getD e default).id) ((K14.getD (i+1) default).l)).getD zAA).g)],.bool ((zT (((zV c C (L.getD j default)).l.getD e default).id) ((K14.getD (i+1) default).l)).isSome)]),.p [7] [],.p [8] [],.p [8] [],.x [] ⟨[],[],[],λvs31=>vs31 11=pt (zBj (vs31 11)) 0,λvs31=>[blk (zBj (vs31 11)) [zI 0,zI 0,zI 0,zI 0,zI 0,zI 0,zI 0,.int .u16 (0),.int .u8 (0)] 48],none⟩,.x [9] ⟨[],[11],[11],λvs31=>True,λvs31=>[blk (zBj (vs31 11)) [zI (((zT (((zV c C (L.getD j default)).l.getD e default).id) ((K14.getD (i+1) default).l)).getD zAA).id),zI (((zT (((zV c C (L.getD j default)).l.getD e default).id) ((K14.getD (i+1) default).l)).getD zAA).p0),zI (((zT (((zV c C (L.getD j default)).l.getD e default).id) ((K14.getD (i+1) default).l)).getD zAA).p1),zI (((zT (((zV c C (L.getD j default)).l.getD e default).id) ((K14.getD (i+1) default).l)).getD zAA).p2),zI (((zT (((zV c C (L.getD j default)).l.getD e default).id) ((K14.getD (i+1) default).l)).getD zAA).v0),zI (((zT (((zV c C (L.getD j default)).l.getD e default).id) ((K14.getD (i+1) default).l)).getD zAA).v1),zI (((zT (((zV c C (L.getD j default)).l.getD e default).id) ((K14.getD (i+1) default).l)).getD zAA).v2),.int .u16 (((((zT (((zV c C (L.getD j default)).l.getD e default).id) ((K14.getD (i+1) default).l)).getD zAA).a).toNat:Nat):Int),bI (((zT (((zV c C (L.getD j default)).l.getD e default).id) ((K14.getD (i+1) default).l)).getD zAA).g)] 48],none⟩,.p [10] []] [13] hs .n .n (.c .z .n) (by kernel_rfl) ⟨?_,λ_ _ _ _ hm hs K=>zBF (j:=(i+1)) hs rfl rfl (zK (hm.del (.s (.s .z)))) rfl (by omega) underlying37 sizeOf46 rfl (vk K),λ_ _ _ _ hm hs K=>zAx (cs:=snV (K14.getD (i+1) default)) hs rfl (zK (hm.del (.s (.s .z)))) (zAZ zAm K14 (i+1) (by omega)) (by rw [zAN zAm];omega) (by omega) isAgg46 sizeOf46 rfl (vk K),rfl,λ_ _ _ _ hm hs K=>zB (v:=.tuple #[.agg #[zI (((zT (((zV c C (L.getD j default)).l.getD e default).id) ((K14.getD (i+1) default).l)).getD zAA).id),zI (((zT (((zV c C (L.getD j default)).l.getD e default).id) ((K14.getD (i+1) default).l)).getD zAA).p0),zI (((zT (((zV c C (L.getD j default)).l.getD e default).id) ((K14.getD (i+1) default).l)).getD zAA).p1),zI (((zT (((zV c C (L.getD j default)).l.getD e default).id) ((K14.getD (i+1) default).l)).getD zAA).p2),zI (((zT (((zV c C (L.getD j default)).l.getD e default).id) ((K14.getD (i+1) default).l)).getD zAA).v0),zI (((zT (((zV c C (L.getD j default)).l.getD e default).id) ((K14.getD (i+1) default).l)).getD zAA).v1),zI (((zT (((zV c C (L.getD j default)).l.getD e default).id) ((K14.getD (i+1) default).l)).getD zAA).v2),.int .u16 (((((zT (((zV c C (L.getD j default)).l.getD e default).id) ((K14.getD (i+1) default).l)).getD zAA).a).toNat:Nat):Int),bI (((zT (((zV c C (L.getD j default)).l.getD e default).id) ((K14.getD (i+1) default).l)).getD zAA).g)],.bool ((zT (((zV c C (L.getD j default)).l.getD e default).id) ((K14.getD (i+1) default).l)).isSome)]) hs (.c rfl (.c rfl .n)) call10 (zIM ((K14.getD (i+1) default).t) ((K14.getD (i+1) default).tm) _ ((K14.getD (i+1) default).l) (((zV c C (L.getD j default)).l.getD e default).id) _ (zC4 (hm.del (.s (.s (.s .z)))) (.inl (zD1 (by omega))))) rfl (vk K),⟨.n,by kernel_rfl,λ_=>rfl,rfl,rfl⟩,⟨?_,?_,trivial⟩,?_⟩
   ·
    intro a_ w_ R_ Q_ hm hs K_
    refine zIb hs rfl rfl (by omega) rfl ?_;clear hs;intro a w hs
    have hv_:(((i:Nat):Int)+1:Int)=(((i+1:Nat):Int):Int):=by omega
    rw [hv_] at hs;clear hv_
    exact wpList_nil (K_ _ _ hs)
   ·
    intro a_ w_ R_ rest_ vs31 hm hs ht hx
    have hs0:=hs.bare
    refine zBm (cs:=[zI 0,zI 0,zI 0,zI 0,zI 0,zI 0,zI 0,.int .u16 (0),.int .u8 (0)]) hs zeroValue48 rfl rfl ?_;clear hs;intro g32 a w hs
    exact wpList_nil ⟨rfl,_,_,hs0,.r,hs,rfl⟩
   ·
    intro a_ w_ R_ rest_ vs31 hm hs ht hx
    have t11:=ht 11 (zJ 14 _ (by kernel_rfl))
    have e11:_=some (vs31 11):=t11.val rfl
    rw [show vs31 11=pt (zBj (vs31 11)) 0 from t11.2.1] at e11
    replace hs:=hs.learn e11
    have hs0:=hs.bare
    refine zAU hs rfl rfl .z (.z (.c (.c (.c (.c (.c (.c (.c (.c (.c .n)))))))))) (zF rfl (zF rfl (zF rfl (zF rfl (zF rfl (zF rfl (zF rfl (zF rfl (zF rfl zAX))))))))) sizeOf48 rfl ?_;clear hs;intro a w hs
    exact wpList_nil ⟨rfl,.tuple #[],_,hs0,(.c (.c .r)),hs,trivial⟩
   clear hs w a;intro vs31 a w hs hf
   obtain ⟨e11,q11⟩:=hf 11 (by decide)
   replace e11:_=some (vs31 11):=e11.val rfl
   rw [show vs31 11=pt (zBj (vs31 11)) 0 from q11] at e11
   replace hs:=hs.learn e11;clear e11 q11
   generalize zBj (vs31 11)=g33 at hs
   clear hf
   revert a w hs
   refine goE 2 [] [122,16,17,14,13,5,8,10,11,28,29,30,56,57,58] .n ?_
   have hb_:(!((zT (((zV c C (L.getD j default)).l.getD e default).id) ((K14.getD i default).l)).isSome))=false:=by rw [hB.a];rfl
   intro a w hs;rw [hb_] at hs;clear hb_
   revert a w hs
   refine go 3 [] [125,123,16,14,13,5,8,10,11,28,29,30,56,57,58] .n ?_
   have hb_:(!((zT (((zV c C (L.getD j default)).l.getD e default).id) ((K14.getD (i+1) default).l)).isSome))=false:=by rw [hB.b];rfl
   intro a w hs;rw [hb_] at hs;clear hb_
   revert a w hs
   refine go 7 [0,1] [132,127,16,14,13,5,8,10,11,28,29,30,56,57,58] (.c (.s (.s (.s (.s (.s (.s (.s (.s .z)))))))) (.c (.s (.s (.s (.s (.s (.s (.s (.s .z)))))))) .n)) ⟨rfl,rfl,?_⟩
   have hb_:(!(((((((zT (((zV c C (L.getD j default)).l.getD e default).id) ((K14.getD i default).l)).getD zAA).g).toNat:Nat):Int):Int)==(((((zT (((zV c C (L.getD j default)).l.getD e default).id) ((K14.getD (i+1) default).l)).getD zAA).g).toNat:Nat):Int)))=false:=zcn hB.g
   intro a w hs;rw [hb_] at hs;clear hb_
   revert a w hs
   refine go 8 [0,1,2] [140,138,136,134,16,14,13,5,8,10,11,28,29,30,56,57,58] (.c (.s (.s .z)) (.c .z (.c .z .n))) ⟨rfl,rfl,rfl,?_⟩
   intro a w hs;refine zC hs rfl rfl rfl ?_
   refine zB (v:=.bool ((zAI (((zV c C (L.getD j default)).l.getD e default).p0) (((zT (((zV c C (L.getD j default)).l.getD e default).id) ((K14.getD i default).l)).getD zAA).p0) (((zT (((zV c C (L.getD j default)).l.getD e default).id) ((K14.getD (i+1) default).l)).getD zAA).p0):Int)==(((zV c C (L.getD j default)).l.getD e default).p0) && (zAI (((zV c C (L.getD j default)).l.getD e default).p1) (((zT (((zV c C (L.getD j default)).l.getD e default).id) ((K14.getD i default).l)).getD zAA).p1) (((zT (((zV c C (L.getD j default)).l.getD e default).id) ((K14.getD (i+1) default).l)).getD zAA).p1):Int)==(((zV c C (L.getD j default)).l.getD e default).p1) && (zAI (((zV c C (L.getD j default)).l.getD e default).p2) (((zT (((zV c C (L.getD j default)).l.getD e default).id) ((K14.getD i default).l)).getD zAA).p2) (((zT (((zV c C (L.getD j default)).l.getD e default).id) ((K14.getD (i+1) default).l)).getD zAA).p2):Int)==(((zV c C (L.getD j default)).l.getD e default).p2))) hs (.c rfl (.c rfl (.c rfl .n))) call11 (zRP (((zV c C (L.getD j default)).l.getD e default).p0) (((zV c C (L.getD j default)).l.getD e default).p1) (((zV c C (L.getD j default)).l.getD e default).p2) (((zT (((zV c C (L.getD j default)).l.getD e default).id) ((K14.getD i default).l)).getD zAA).p0) (((zT (((zV c C (L.getD j default)).l.getD e default).id) ((K14.getD i default).l)).getD zAA).p1) (((zT (((zV c C (L.getD j default)).l.getD e default).id) ((K14.getD i default).l)).getD zAA).p2) (((zT (((zV c C (L.getD j default)).l.getD e default).id) ((K14.getD (i+1) default).l)).getD zAA).p0) (((zT (((zV c C (L.getD j default)).l.getD e default).id) ((K14.getD (i+1) default).l)).getD zAA).p1) (((zT (((zV c C (L.getD j default)).l.getD e default).id) ((K14.getD (i+1) default).l)).getD zAA).p2) _) rfl ?_
   refine goL 1 [] [142,134,16,14,13,5,8,10,11,28,29,30,56,57,58] .n ?_
   have hb_:(!((zAI (((zV c C (L.getD j default)).l.getD e default).p0) (((zT (((zV c C (L.getD j default)).l.getD e default).id) ((K14.getD i default).l)).getD zAA).p0) (((zT (((zV c C (L.getD j default)).l.getD e default).id) ((K14.getD (i+1) default).l)).getD zAA).p0):Int)==(((zV c C (L.getD j default)).l.getD e default).p0) && (zAI (((zV c C (L.getD j default)).l.getD e default).p1) (((zT (((zV c C (L.getD j default)).l.getD e default).id) ((K14.getD i default).l)).getD zAA).p1) (((zT (((zV c C (L.getD j default)).l.getD e default).id) ((K14.getD (i+1) default).l)).getD zAA).p1):Int)==(((zV c C (L.getD j default)).l.getD e default).p1) && (zAI (((zV c C (L.getD j default)).l.getD e default).p2) (((zT (((zV c C (L.getD j default)).l.getD e default).id) ((K14.getD i default).l)).getD zAA).p2) (((zT (((zV c C (L.getD j default)).l.getD e default).id) ((K14.getD (i+1) default).l)).getD zAA).p2):Int)==(((zV c C (L.getD j default)).l.getD e default).p2)))=false:=by rw [hB.p0,hB.p1,hB.p2];simp
   intro a w hs;rw [hb_] at hs;clear hb_
   revert a w hs
   refine go 8 [0,1,2] [150,148,146,144,5,8,10,11,28,29,30,56,57,58] (.c .z (.c .z (.c .z .n))) ⟨rfl,rfl,rfl,?_⟩
   intro a w hs;refine zC hs rfl rfl rfl ?_
   refine zB (v:=.bool (zPo (((zV c C (L.getD j default)).l.getD e default).a) (((zT (((zV c C (L.getD j default)).l.getD e default).id) ((K14.getD i default).l)).getD zAA).a) (((zT (((zV c C (L.getD j default)).l.getD e default).id) ((K14.getD (i+1) default).l)).getD zAA).a))) hs (.c rfl (.c rfl (.c rfl .n))) call12 (zTB (((zV c C (L.getD j default)).l.getD e default).a) (((zT (((zV c C (L.getD j default)).l.getD e default).id) ((K14.getD i default).l)).getD zAA).a) (((zT (((zV c C (L.getD j default)).l.getD e default).id) ((K14.getD (i+1) default).l)).getD zAA).a) _) rfl ?_
   refine goL 1 [] [152,144,5,8,10,11,28,29,30,56,57,58] .n ?_
   have hb_:(!(zPo (((zV c C (L.getD j default)).l.getD e default).a) (((zT (((zV c C (L.getD j default)).l.getD e default).id) ((K14.getD i default).l)).getD zAA).a) (((zT (((zV c C (L.getD j default)).l.getD e default).id) ((K14.getD (i+1) default).l)).getD zAA).a)))=false:=by rw [hB.an];rfl
   intro a w hs;rw [hb_] at hs;clear hb_
   revert a w hs
   refine go 4 [] [58,5,8,10,11,28,29,30,56,57] .n ⟨(by omega),?_⟩
   intro a w hs;rw [← hB.at_] at hs
   replace hs:=hs.drop (.c (.s (.s .z)) (.c (.s .z) (.c .z .n)))
   refine ⟨_,?_,(e+1),rfl,hs.sub (.c rfl (.c rfl (.c rfl (.c rfl (.c rfl (.c rfl (.c rfl (.c rfl (.c rfl (.c rfl .n)))))))))),by omega⟩
   omega
  refine go 2 [] [30,5,28,29] .n ⟨(by omega),?_⟩
  refine cl (·.drop (.c (.s (.s (.s (.s .z)))) (.c (.s (.s (.s .z))) (.c (.s (.s .z)) (.c (.s .z) (.c .z .n)))))) ?_
  intro a w hs;refine ⟨_,?_,(j+1),Y7,(cDo c C (L.getD j default)),rfl,hs.sub (.c rfl (.c rfl (.c rfl (.c rfl .n)))),by omega,hY8,(zSY hk ⟨by omega,by omega⟩ hI1_2),(λi=>Nat.le_trans (zXc _ _ _ i) (Nat.succ_le_succ (hI1_3 i))),(Nat.le_trans (zJn _ _ _) (Nat.succ_le_succ hI1_4))⟩
  omega
 refine go 1 [] [4] .n ?_
 refine cl (·.drop (.c (.s .z) (.c .z .n))) ?_
 intro a w hs;exact fin hs rfl rfl ⟨rfl,rfl⟩
theorem zJ1 (c:zAS) (u:Value) (L:List EvR)  (w0:World) (hu:Rd w0 [] u 3 L.length (L.flatMap evV)) (hL:∀ x∈L,x.ok w0):Calls Tryz.prog 3 #[.agg #[zI c.ring,zI c.window,zI c.base,zI c.gain,zI c.least,zI c.most,zI c.slack,zI c.num,zI c.den,zI c.extra,.bool (c.curve)],u] w0 (zAh w0 (.bool true)):=by
 by_cases hg:Grt L
 ·exact zFz c u L  w0 hu hL (.inl hg)
 ·by_cases hk:zCb c=0
  ·exact zH8 c u L  w0 hu hL hg hk
  ·exact zFz c u L  w0 hu hL (.inr hk)
end Go.Proofs.YtljpfgacpofkpaaGreat
