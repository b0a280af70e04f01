import Derived.Test.YtljpfgacpofkpaaGreatQG8
import Derived.Test.YtljpfgacpofkpaaGreatQG23
import Derived.Test.YtljpfgacpofkpaaGreatQG15
import Derived.Test.YtljpfgacpofkpaaGreatQSxBasB
set_option linter.unusedVariables false
set_option linter.unusedSimpArgs false
namespace Go.Proofs.YtljpfgacpofkpaaGreat
open Tryz
open Go Go.Sx Go.RowKit
set_option maxRecDepth 4000
set_option maxHeartbeats 1000000
theorem zVq (w0:World):Calls Tryz.prog 27 #[] w0 (zAh w0 (.agg #[zI 8,zI 4,zI 0,zI 0,zI 0,zI 0,zI 0,zI 1,zI 1,zI 5,.bool (false)])):=by
 refine zG (F0:=[]) func27 rfl rfl rfl .n (Mem.nil _) ?_
 refine go 3 [0] [0] .n (λg1=>⟨rfl,?_⟩)
 intro a w hs;exact zI0 hs rfl rfl .z (.z (.c (.c (.c (.c (.c (.c (.c (.c (.c (.c (.c .n)))))))))))) isAgg23 sizeOf23 (.c .z .n) ⟨rfl,rfl⟩
theorem zNz (t tm:Int) (u:Value) (l:List zS) (w0:World) (ht : -9223372036854775808≤t∧t≤9223372036854775807) (htm : -9223372036854775808≤tm∧tm≤9223372036854775807) (hc:Rd w0 [] u 9 l.length (l.flatMap zBI)) (hw:∀ x∈l,x.wf):Calls Tryz.prog 29 #[.agg #[zI t,zI tm,u]] w0 (Ret w0 [] λv N=>N=[row v 5 1 (zOe t tm l).length (zD (zOe t tm l))]):=by
 have hce:=hc.le
 simp only [maxLen] at hce
 refine zG (F0:=[(0,.agg #[zI t,zI tm,u])]) func29 rfl rfl rfl (.c .n) (Mem.nil _) ?_
 refine go 3 [0,0] [8] .n (λg1=>⟨rfl,?_⟩)
 intro a w hs;refine zL hs (.c rfl .n) call57 .n (zZo t tm _ l _ (by omega) (by omega) (hs.rd0 hc) hw) rfl ?_;clear hs w a;rintro _ _ a w ⟨v2,rfl,rfl⟩ hs
 have hk3:=zaf (bt:=t) (btm:=tm) (b:=l)
 revert a w hs
 refine goL 4 [] [3,11,10] .n (λg4=>?_)
 intro a w hs;refine zAU hs rfl rfl .z (.z (.c (.c (.c (.c .n))))) (zF rfl (zF rfl (zF rfl (zF (zK (hs.mem.del (.s .z))).isSl.one zAX)))) sizeOf116 rfl ?_
 refine goL 2 [0] [13] (.c .z .n) ⟨rfl,?_⟩
 intro a w hs;refine zL hs (.c rfl .n) call58 .n (zSV ((fG t tm l).t) ((fG t tm l).tm) ((fG t tm l).b) _ ((fG t tm l).l) _ (by omega) (by omega) (by omega) (zK (hs.mem.del (.s .z))) (zXm hw)) rfl ?_;clear hs w a;rintro _ _ a w ⟨v5,rfl,rfl⟩ hs
 have hk6:=zGl ((fG t tm l).t) ((fG t tm l).tm) ((fG t tm l).b) ((fG t tm l).l)
 revert a w hs
 refine goL 7 [] [2] .n ?_
 refine cl (·.drop (.c (.s (.s (.s .z))) (.c (.s (.s .z)) (.c (.s .z) .n)))) ?_
 intro a w hs;exact fin hs rfl rfl rfl
theorem zHs (w0:World):Calls Tryz.prog 6 #[] w0 (zAh w0 (.bool true)):=by
 have e1:=zc6;have e2:=zcz;have e3:=zc5;have e4:=zc2;have e5:=zc7
 unfold tS4 at e5;unfold tS3 at e4 e5;unfold tS2 at e3 e4 e5;unfold tS1 at e2 e3 e4 e5;unfold tEn at e1 e2 e3 e4 e5
 refine zG (F0:=[]) func6 rfl rfl rfl .n (Mem.nil _) ?_
 refine go 14 [0,0] [2,1] .n (λg1=>λg2=>⟨rfl,λg3=>λg4=>⟨rfl,?_⟩⟩)
 intro a w hs;refine zB (v:=.agg #[zI 8,zI 4,zI 0,zI 0,zI 0,zI 0,zI 0,zI 1,zI 1,zI 5,.bool (false)]) hs .n call27 (zVq _) rfl ?_
 intro a w hs;refine zL hs (.c rfl .n) call13 .n (zSI plC zUS _) rfl ?_;clear hs w a;rintro _ _ a w ⟨g5,Y6,rfl,rfl,hY7⟩ hs
 revert a w hs
 refine goL 14 [0] [30,29,28,3,2] (.c (.s (.s (.s .z))) .n) ⟨rfl,?_⟩
 intro a w hs;refine zC hs rfl rfl rfl ?_
 refine zL hs (.c rfl .n) call29 .n (zNz 1 0 _ ([(⟨1,0,0,0,65536,0,0,0#16,0#8⟩ : zS)]:List zS) _ (by omega) (by omega) (zAJ (m:=1) (size:=9) (hs.mem.del (.s (.s (.s (.s .z))))) rfl (by decide)) (zN8 (by omega))) rfl ?_;clear hs w a;rintro v8 _ a w rfl hs
 have hk9:=zIh 1 0 ([(⟨1,0,0,0,65536,0,0,0#16,0#8⟩ : zS)]:List zS)
 refine zC hs rfl rfl rfl ?_
 refine zL hs (.c rfl (.c rfl (.c rfl .n))) call28 (.c (.s (.s .z)) .n) (zMh hY7 zUS zWR zck zQx 100 (by decide) _ (hs.mem.del (.s (.s .z))) (hs.mem.rdrow .z (.c (.s .z) .n))) rfl ?_;clear hs w a;rintro _ _ a w ⟨rfl,Y10,rfl,hY11⟩ hs
 revert a w hs
 refine goL 1 [] [33,28,3,2] .n ?_
 have hb_:(!((((zG1 plC (C0 plC) (zA (zOe 1 0 ([(⟨1,0,0,0,65536,0,0,0#16,0#8⟩ : zS)]:List zS))):Nat):Int):Int)==0))=false:=by rw [e1]<;>rfl
 intro a w hs;rw [hb_] at hs;clear hb_
 revert a w hs
 refine go 4 [0] [37,36,35,3] (.c (.s (.s (.s .z))) .n) ⟨rfl,?_⟩
 intro a w hs;refine zC hs rfl rfl rfl ?_
 refine zL hs (.c rfl .n) call29 .n (zNz 2 10 _ ([(⟨1,10,0,0,65536,0,0,0#16,0#8⟩ : zS)]:List zS) _ (by omega) (by omega) (zAJ (m:=1) (size:=9) (hs.mem.del (.s (.s (.s (.s .z))))) rfl (by decide)) (zN8 (by omega))) rfl ?_;clear hs w a;rintro v12 _ a w rfl hs
 have hk13:=zIh 2 10 ([(⟨1,10,0,0,65536,0,0,0#16,0#8⟩ : zS)]:List zS)
 refine zC hs rfl rfl rfl ?_
 refine zL hs (.c rfl (.c rfl (.c rfl .n))) call28 (.c (.s (.s .z)) .n) (zMh hY11 zUS zWU zb7 zQx 110 (by decide) _ (hs.mem.del (.s (.s .z))) (hs.mem.rdrow .z (.c (.s .z) .n))) rfl ?_;clear hs w a;rintro _ _ a w ⟨rfl,Y14,rfl,hY15⟩ hs
 revert a w hs
 refine goL 1 [] [40,35,3] .n ?_
 have hb_:(!((((zG1 plC (zNR plC (C0 plC) 100 (zA (zOe 1 0 ([(⟨1,0,0,0,65536,0,0,0#16,0#8⟩ : zS)]:List zS)))) (zA (zOe 2 10 ([(⟨1,10,0,0,65536,0,0,0#16,0#8⟩ : zS)]:List zS))):Nat):Int):Int)==0))=false:=by rw [e2]<;>rfl
 intro a w hs;rw [hb_] at hs;clear hb_
 revert a w hs
 refine go 3 [] [42,3] .n ?_
 intro a w hs;refine zL hs (.c rfl (.c rfl .n)) call30 (.c .z .n) (zJ7 hY15 zUS zWT zZL zQx 104 (by decide) _ (hs.mem.del .z)) rfl ?_;clear hs w a;rintro _ _ a w ⟨v18,rfl,Y16,rfl,hY17⟩ hs
 rw [e3] at hs
 replace hs:=hs.rerow .z (m':=1) (xs':=[zI 1,zI 4,zI 0,zI 0,.int .u16 (((0#16).toNat:Nat):Int),zI 1]) rfl rfl
 revert a w hs
 refine goL 1 [] [44,43,3] .n ?_
 intro a w hs;refine zL hs (.c rfl (.c rfl .n)) call30 (.c (.s .z) .n) (zJ7 hY17 zUS zWq zZL zbp 113 (by decide) _ (hs.mem.del (.s .z))) rfl ?_;clear hs w a;rintro _ _ a w ⟨v21,rfl,Y19,rfl,hY20⟩ hs
 rw [e4] at hs
 replace hs:=hs.rerow .z (m':=1) (xs':=[zI 1,zI 13,zI 0,zI 0,.int .u16 (((0#16).toNat:Nat):Int),zI 3]) rfl rfl
 revert a w hs
 refine goL 1 [] [46,45,43] .n ?_
 intro a w hs;refine zL hs (.c rfl (.c rfl .n)) call30 (.c (.s .z) .n) (zJ7 hY20 zUS zbQ zZL zaU 900 (by decide) _ (hs.mem.del (.s .z))) rfl ?_;clear hs w a;rintro _ _ a w ⟨v24,rfl,Y22,rfl,hY23⟩ hs
 rw [e5] at hs
 replace hs:=hs.rerow .z (m':=1) (xs':=[zI 1,zI 15,zI 0,zI 0,.int .u16 (((0#16).toNat:Nat):Int),zI 4]) rfl rfl
 revert a w hs
 refine goL 3 [] [7,6,5,47,45,43] .n (λg25=>λg26=>λg27=>?_)
 intro a w hs;refine zAU hs rfl rfl (.s (.s .z)) (.z (.c (.c (.c .n)))) (zF rfl (zF rfl (zF (zK (hs.mem.del (.s (.s (.s (.s (.s (.s .z)))))))).isSl.one zAX))) sizeOf33 rfl ?_
 intro a w hs;refine zAU hs rfl rfl (.s (.s .z)) (.z (.c (.c (.c .n)))) (zF rfl (zF rfl (zF (zK (hs.mem.del (.s (.s (.s (.s (.s .z))))))).isSl.one zAX))) sizeOf33 rfl ?_
 intro a w hs;refine zAU hs rfl rfl (.s (.s .z)) (.z (.c (.c (.c .n)))) (zF rfl (zF rfl (zF (zK (hs.mem.del (.s (.s (.s .z))))).isSl.one zAX))) sizeOf33 rfl ?_
 refine goL 2 [0] [49,7,6,5] (.c (.s (.s .z)) .n) ⟨rfl,?_⟩
 intro a w hs;refine zAG hs rfl (zK (hs.mem.del (.s (.s (.s (.s (.s (.s .z)))))))).isSl underlying31 rfl ?_
 refine cl (·.recell (v':=zI 1) (Option.some.inj rfl)) ?_
 refine goL 4 [0] [54,52,7,6] (.c .z .n) ⟨rfl,?_⟩
 intro a w hs;refine zC hs rfl rfl rfl ?_
 refine zBF (j:=0) hs rfl rfl (zK (hs.mem.del (.s (.s (.s (.s (.s (.s .z)))))))) (by decide) (by omega) underlying31 sizeOf43 rfl ?_
 intro a w hs;refine zC hs rfl rfl rfl ?_
 refine zAx (cs:=[zI 1,zI 4,zI 0,zI 0,.int .u16 (((0#16).toNat:Nat):Int),zI 1]) hs rfl (zK (hs.mem.del (.s (.s (.s (.s (.s (.s .z)))))))) (by rfl) (by simp) (by decide) isAgg43 sizeOf43 rfl ?_
 refine goL 3 [] [59,52,7,6] .n ⟨by kernel_rfl,?_⟩
 have hb_:(zAK [zI 1,zI 4,zI 0,zI 0,.int .u16 (((0#16).toNat:Nat):Int),zI 1] [zI 1,zI 4,zI 0,zI 0,.int .u16 (0),zI 1])=true:=by decide
 intro a w hs;rw [hb_] at hs;clear hb_
 revert a w hs
 refine go 4 [0] [63,61,7,6] (.c (.s (.s .z)) .n) ⟨rfl,?_⟩
 intro a w hs;refine zC hs rfl rfl rfl ?_
 refine zAG hs rfl (zK (hs.mem.del (.s (.s (.s (.s (.s .z))))))).isSl underlying31 rfl ?_
 refine cl (·.recell (v':=zI 1) (Option.some.inj rfl)) ?_
 refine goL 5 [0] [69,67,7] (.c .z .n) ⟨rfl,?_⟩
 intro a w hs;refine zC hs rfl rfl rfl ?_
 refine zBF (j:=0) hs rfl rfl (zK (hs.mem.del (.s (.s (.s (.s (.s .z))))))) (by decide) (by omega) underlying31 sizeOf43 rfl ?_
 intro a w hs;refine zC hs rfl rfl rfl ?_
 refine zAx (cs:=[zI 1,zI 13,zI 0,zI 0,.int .u16 (((0#16).toNat:Nat):Int),zI 3]) hs rfl (zK (hs.mem.del (.s (.s (.s (.s (.s .z))))))) (by rfl) (by simp) (by decide) isAgg43 sizeOf43 rfl ?_
 refine goL 3 [] [74,67,7] .n ⟨by kernel_rfl,?_⟩
 have hb_:(zAK [zI 1,zI 13,zI 0,zI 0,.int .u16 (((0#16).toNat:Nat):Int),zI 3] [zI 1,zI 13,zI 0,zI 0,.int .u16 (0),zI 3])=true:=by decide
 intro a w hs;rw [hb_] at hs;clear hb_
 revert a w hs
 refine go 4 [0] [78,76,7] (.c (.s (.s .z)) .n) ⟨rfl,?_⟩
 intro a w hs;refine zC hs rfl rfl rfl ?_
 refine zAG hs rfl (zK (hs.mem.del (.s (.s (.s .z))))).isSl underlying31 rfl ?_
 refine cl (·.recell (v':=zI 1) (Option.some.inj rfl)) ?_
 refine goL 5 [0] [84,82] (.c .z .n) ⟨rfl,?_⟩
 intro a w hs;refine zC hs rfl rfl rfl ?_
 refine zBF (j:=0) hs rfl rfl (zK (hs.mem.del (.s (.s (.s .z))))) (by decide) (by omega) underlying31 sizeOf43 rfl ?_
 intro a w hs;refine zC hs rfl rfl rfl ?_
 refine zAx (cs:=[zI 1,zI 15,zI 0,zI 0,.int .u16 (((0#16).toNat:Nat):Int),zI 4]) hs rfl (zK (hs.mem.del (.s (.s (.s .z))))) (by rfl) (by simp) (by decide) isAgg43 sizeOf43 rfl ?_
 refine goL 3 [] [89,82] .n ⟨by kernel_rfl,?_⟩
 have hb_:(zAK [zI 1,zI 15,zI 0,zI 0,.int .u16 (((0#16).toNat:Nat):Int),zI 4] [zI 1,zI 15,zI 0,zI 0,.int .u16 (0),zI 4])=true:=by decide
 intro a w hs;rw [hb_] at hs;clear hb_
 revert a w hs
 refine go 2 [] [0] .n ?_
 refine cl (·.drop (.c (.s (.s (.s (.s (.s (.s (.s (.s (.s (.s (.s (.s .z)))))))))))) (.c (.s (.s (.s (.s (.s (.s (.s (.s (.s (.s (.s .z))))))))))) (.c (.s (.s (.s (.s (.s (.s (.s (.s (.s (.s .z)))))))))) (.c (.s (.s (.s (.s (.s (.s (.s (.s (.s .z))))))))) (.c (.s (.s (.s (.s (.s (.s (.s (.s .z)))))))) (.c (.s (.s (.s (.s (.s (.s (.s .z))))))) (.c (.s (.s (.s (.s (.s (.s .z)))))) (.c (.s (.s (.s (.s (.s .z))))) (.c (.s (.s (.s (.s .z)))) (.c (.s (.s (.s .z))) (.c (.s (.s .z)) (.c (.s .z) (.c .z .n)))))))))))))) ?_
 intro a w hs;exact fin hs rfl rfl ⟨rfl,rfl⟩
theorem zcW (u:Value) (L:List EvR) (w0:World) (hu:Rd w0 [] u 3 L.length (L.flatMap evV)) (hL:∀ x∈L,x.ok w0) (hg:Grt L):Calls Tryz.prog 15 #[u] w0 (zAh w0 (.int .i64 1)):=by
 have hue:=hu.le
 simp only [maxLen] at hue
 unfold Grt at hg
 refine zG (F0:=[(0,u)]) func15 rfl rfl rfl (.c .n) (Mem.nil _) ?_
 refine go 3 [] [6,3,0] .n ?_
 intro a w hs;refine zAG hs rfl (hs.rd0 hu).isSl underlying24 rfl ?_
 refine goL 1 [] [8,7,6,3,0] .n ?_
 intro a w hs;refine zCC (λmm_ a w=>∃ j:Nat,mm_=L.length-j∧St 25 [(0,u),(3,zI (zRu L j)),(6,u),(7,nI L.length),(8,nI j)] w0 [] [] a w∧j≤L.length) ⟨0,rfl,hs.sub (.c rfl (.c rfl (.c rfl (.c rfl (.c rfl .n))))),by omega⟩ ?_
 clear hs w a;rintro mm_ a w ⟨j,rfl,hs,hI1_0⟩
 revert a w hs
 refine go 1 [] [9,0,3,6,7,8] .n ?_
 refine ifG rfl (λc_1=>?_) (λc_1=>?_)
 ·
  refine go 0 [] [0,3,6,7,8] .n ?_
  intro a w hs;refine zBF (j:=j) hs rfl rfl (hs.rd0 hu) rfl (by omega) underlying24 sizeOf30 rfl ?_
  intro a w hs;refine zAx (cs:=evV (L.getD j default)) hs rfl (hs.rd0 hu) (zAZ zGw L j (by omega)) (by rw [zAN zGw];omega) (by omega) isAgg30 sizeOf30 rfl ?_
  refine goL 5 [50,0] [14,12,0,6,7,8] .n (λg2=>⟨rfl,(zF rfl (zF rfl (zF (hL _ (zMd (by omega))).rd.isSl.one zAX))),rfl,?_⟩)
  intro a w hs;refine zAG hs rfl (hs.rd0 (hL _ (zMd (by omega))).rd).isSl underlying28 rfl ?_
  intro a w hs;refine zEZ hs rfl rfl rfl ?_
  refine goL 3 [] [8,3,0,6,7] .n ⟨(by omega),?_⟩
  refine cl (·.drop (.c .z .n)) ?_
  intro a w hs;refine ⟨_,?_,(j+1),rfl,hs.sub (.c rfl (.c rfl (.c rfl (.c rfl (.c rfl .n))))),by omega⟩
  omega
 have hjl:j=L.length:=by omega
 intro a w hs;rw [show zRu L j=zRu L L.length by rw [hjl]] at hs
 have hgr:=zWn L L.length
 revert a w hs
 refine go 1 [] [18,3] .n ?_
 intro a w hs;refine zAG hs rfl (hs.rd0 hu).isSl underlying24 rfl ?_
 refine goL 2 [] [21,3] .n ?_
 intro a w hs;refine zX (b:=decide (60<((L.length:Nat):Int))) (λc_3=>?_) (λc_3=>?_)
 ·
  rw [c_3] at hs
  replace c_3:=of_decide_eq_true c_3
  revert a w hs
  refine goF 3 3 [] [24] .n ?_
  refine go 2 [] [2] .n ?_
  intro a w hs;exact fin hs rfl rfl ⟨rfl,rfl⟩
 rw [c_3] at hs
 replace c_3:=of_decide_eq_false c_3
 revert a w hs
 refine goF 3 3 [] [24] .n ?_
 have hb_:(decide (12000<(zRu L L.length)))=true:=by first | (rw [Bool.or_eq_true,decide_eq_true_eq,decide_eq_true_eq];omega) | (simp;omega)
 intro a w hs;rw [hb_] at hs;clear hb_
 revert a w hs
 refine go 2 [] [2] .n ?_
 intro a w hs;exact fin hs rfl rfl ⟨rfl,rfl⟩
theorem zaC (u:Value) (L:List EvR) (w0:World) (hu:Rd w0 [] u 3 L.length (L.flatMap evV)) (hL:∀ x∈L,x.ok w0) (hg:¬ Grt L):Calls Tryz.prog 15 #[u] w0 (zAh w0 (.int .i64 0)):=by
 have hue:=hu.le
 simp only [maxLen] at hue
 unfold Grt at hg
 refine zG (F0:=[(0,u)]) func15 rfl rfl rfl (.c .n) (Mem.nil _) ?_
 refine go 3 [] [6,3,0] .n ?_
 intro a w hs;refine zAG hs rfl (hs.rd0 hu).isSl underlying24 rfl ?_
 refine goL 1 [] [8,7,6,3,0] .n ?_
 intro a w hs;refine zCC (λmm_ a w=>∃ j:Nat,mm_=L.length-j∧St 25 [(0,u),(3,zI (zRu L j)),(6,u),(7,nI L.length),(8,nI j)] w0 [] [] a w∧j≤L.length) ⟨0,rfl,hs.sub (.c rfl (.c rfl (.c rfl (.c rfl (.c rfl .n))))),by omega⟩ ?_
 clear hs w a;rintro mm_ a w ⟨j,rfl,hs,hI1_0⟩
 revert a w hs
 refine go 1 [] [9,0,3,6,7,8] .n ?_
 refine ifG rfl (λc_1=>?_) (λc_1=>?_)
 ·
  refine go 0 [] [0,3,6,7,8] .n ?_
  intro a w hs;refine zBF (j:=j) hs rfl rfl (hs.rd0 hu) rfl (by omega) underlying24 sizeOf30 rfl ?_
  intro a w hs;refine zAx (cs:=evV (L.getD j default)) hs rfl (hs.rd0 hu) (zAZ zGw L j (by omega)) (by rw [zAN zGw];omega) (by omega) isAgg30 sizeOf30 rfl ?_
  refine goL 5 [50,0] [14,12,0,6,7,8] .n (λg2=>⟨rfl,(zF rfl (zF rfl (zF (hL _ (zMd (by omega))).rd.isSl.one zAX))),rfl,?_⟩)
  intro a w hs;refine zAG hs rfl (hs.rd0 (hL _ (zMd (by omega))).rd).isSl underlying28 rfl ?_
  intro a w hs;refine zEZ hs rfl rfl rfl ?_
  refine goL 3 [] [8,3,0,6,7] .n ⟨(by omega),?_⟩
  refine cl (·.drop (.c .z .n)) ?_
  intro a w hs;refine ⟨_,?_,(j+1),rfl,hs.sub (.c rfl (.c rfl (.c rfl (.c rfl (.c rfl .n))))),by omega⟩
  omega
 have hjl:j=L.length:=by omega
 intro a w hs;rw [show zRu L j=zRu L L.length by rw [hjl]] at hs
 have hgr:=zWn L L.length
 revert a w hs
 refine go 1 [] [18,3] .n ?_
 intro a w hs;refine zAG hs rfl (hs.rd0 hu).isSl underlying24 rfl ?_
 refine goL 1 [] [20,3] .n ?_
 have hb_:(decide (60<((L.length:Nat):Int)))=false:=decide_eq_false (by omega)
 intro a w hs;rw [hb_] at hs;clear hb_
 revert a w hs
 refine go 3 [] [23,21] .n ?_
 have hb_:(decide (12000<(zRu L L.length)))=false:=decide_eq_false (by omega)
 intro a w hs;rw [hb_] at hs;clear hb_
 revert a w hs
 refine go 3 [] [2] .n ?_
 intro a w hs;exact fin hs rfl rfl ⟨rfl,rfl⟩
theorem zZN (c:zAS) (u:Value) (L:List EvR) (w0:World) (hu:Rd w0 [] u 3 L.length (L.flatMap evV)) (hL:∀ x∈L,x.ok w0) (hg:Grt L):Calls Tryz.prog 5 #[.agg #[zI c.ring,zI c.window,zI c.base,zI c.gain,zI c.least,zI c.most,zI c.slack,zI c.num,zI c.den,zI c.extra,.bool (c.curve)],u] w0 (zAh w0 (.pointer none)):=by
 refine zG (F0:=[(0,.agg #[zI c.ring,zI c.window,zI c.base,zI c.gain,zI c.least,zI c.most,zI c.slack,zI c.num,zI c.den,zI c.extra,.bool (c.curve)]),(1,u)]) func5 rfl rfl rfl (.c (.c .n)) (Mem.nil _) ?_
 refine go 3 [0] [7,2] .n (λg1=>?_)
 intro a w hs;refine zB (v:=zI 1) hs (.c rfl .n) call15 (zcW _ L _ (hs.rd0 hu) (λx hx=>⟨(hL x hx).k,(hL x hx).at_,hs.rd0 (hL x hx).rd⟩) hg) rfl ?_
 refine goL 3 [] [4] .n ?_
 refine cl (·.drop (.c .z .n)) ?_
 intro a w hs;exact fin hs rfl rfl ⟨rfl,rfl⟩
theorem zW8 (c:zAS) (u:Value) (L:List EvR) (w0:World) (hu:Rd w0 [] u 3 L.length (L.flatMap evV)) (hL:∀ x∈L,x.ok w0) (hg:¬ Grt L) (hk:zCb c≠0):Calls Tryz.prog 5 #[.agg #[zI c.ring,zI c.window,zI c.base,zI c.gain,zI c.least,zI c.most,zI c.slack,zI c.num,zI c.den,zI c.extra,.bool (c.curve)],u] w0 (zAh w0 (.pointer none)):=by
 refine zG (F0:=[(0,.agg #[zI c.ring,zI c.window,zI c.base,zI c.gain,zI c.least,zI c.most,zI c.slack,zI c.num,zI c.den,zI c.extra,.bool (c.curve)]),(1,u)]) func5 rfl rfl rfl (.c (.c .n)) (Mem.nil _) ?_
 refine go 3 [0] [7,2] .n (λg1=>?_)
 intro a w hs;refine zB (v:=zI 0) hs (.c rfl .n) call15 (zaC _ L _ (hs.rd0 hu) (λx hx=>⟨(hL x hx).k,(hL x hx).at_,hs.rd0 (hL x hx).rd⟩) hg) rfl ?_
 refine goL 3 [0] [11] (.c .z .n) ⟨rfl,?_⟩
 intro a w hs;refine zB (v:=.tuple #[.pointer (none),nI (zCb c)]) hs (.c rfl .n) call13 (zTg c hk _) rfl ?_
 refine zPd 12 7 [] [16,5] .n ?_
 have hb_:(!((((zCb c:Nat):Int):Int)==0))=true:=by simpa using hk
 intro a w hs;rw [hb_] at hs;clear hb_
 revert a w hs
 refine go 2 [] [4] .n ?_
 refine cl (·.drop (.c .z .n)) ?_
 intro a w hs;exact fin hs rfl rfl ⟨rfl,rfl⟩
theorem zVS (c:zAS) (u:Value) (L:List EvR) (w0:World) (hu:Rd w0 [] u 3 L.length (L.flatMap evV)) (hL:∀ x∈L,x.ok w0) (h:Grt L∨zCb c≠0):Calls Tryz.prog 5 #[.agg #[zI c.ring,zI c.window,zI c.base,zI c.gain,zI c.least,zI c.most,zI c.slack,zI c.num,zI c.den,zI c.extra,.bool (c.curve)],u] w0 (zAh w0 (.pointer none)):=by
 by_cases hg:Grt L
 · exact zZN c u L w0 hu hL hg
 · exact zW8 c u L w0 hu hL hg (h.resolve_left hg)
theorem zUw (c:zAS) (u:Value) (L:List EvR) (w0:World) (hu:Rd w0 [] u 3 L.length (L.flatMap evV)) (hL:∀ x∈L,x.ok w0) (hg:¬ Grt L) (hk:zCb c=0):Calls Tryz.prog 5 #[.agg #[zI c.ring,zI c.window,zI c.base,zI c.gain,zI c.least,zI c.most,zI c.slack,zI c.num,zI c.den,zI c.extra,.bool (c.curve)],u] w0 (Ret w0 [] λz N=>∃ g Y,z=pt g 0∧N=[Y]∧Cli g c (C0 c) Y):=by
 refine zG (F0:=[(0,.agg #[zI c.ring,zI c.window,zI c.base,zI c.gain,zI c.least,zI c.most,zI c.slack,zI c.num,zI c.den,zI c.extra,.bool (c.curve)]),(1,u)]) func5 rfl rfl rfl (.c (.c .n)) (Mem.nil _) ?_
 refine go 3 [0] [7,2] .n (λg1=>?_)
 intro a w hs;refine zB (v:=zI 0) hs (.c rfl .n) call15 (zaC _ L _ (hs.rd0 hu) (λx hx=>⟨(hL x hx).k,(hL x hx).at_,hs.rd0 (hL x hx).rd⟩) hg) rfl ?_
 refine goL 3 [0] [11] (.c .z .n) ⟨rfl,?_⟩
 intro a w hs;refine zL hs (.c rfl .n) call13 .n (zSI c hk _) rfl ?_;clear hs w a;rintro _ _ a w ⟨g2,Y3,rfl,rfl,hY4⟩ hs
 revert a w hs
 refine goL 10 [] [4] .n ?_
 refine cl (·.drop (.c (.s .z) .n)) ?_
 intro a w hs;exact fin hs rfl rfl ⟨_,_,rfl,rfl,hY4⟩
theorem zVk {g:Nat} {c:zAS} {C:CS} {Y:HA} (hY:Cli g c C Y) (w0:World) (hp:Y.p w0):Calls Tryz.prog 8 #[pt g 0] w0 (Ret w0 [] λv N=>∃ K:List RI,N=[row v 46 3 K.length (K.flatMap snV),rws 48 K]∧sns K=C.σ.l):=by
 have hol:=(Cli.oks hY).le;have hom:=(Cli.oks hY).m64;have hst:=(Cli.oks hY).srt
 refine zG (F0:=[(0,pt g 0)]) func8 rfl rfl rfl (.c .n) (Mem.nil _) ?_
 refine go 3 [] [8,3,0] .n ?_
 intro a w hs;refine zL hs (.c rfl .n) call23 .n (zU3 hY _ (hs.mem.keepH hp (by simp))) rfl ?_;clear hs w a;rintro v1 _ a w rfl hs
 refine zAG hs rfl (zK (hs.mem.del .z)).isSl underlying71 rfl ?_
 refine goL 1 [] [11,10,9,3,0] .n ?_
 refine cl (·.addNil 46 3) ?_
 refine cl (·.rerow .z (m':=([]:List RI).length) (xs':=(([]:List RI).flatMap snV)) (rfl) (rfl)) ?_
 refine cl (·.addRws 48) ?_
 refine cl (·.reorder (.c (.s .z) (.c .z (.c .z .n)))) ?_
 intro a w hs;refine zCC (λmm_ a w=>∃ i:Nat,∃ q:Value,∃ K:List RI,mm_=C.σ.l.length-i∧St 28 [(0,pt g 0),(3,q),(9,v1),(10,nI C.σ.l.length),(11,nI i)] w0 [] [row q 46 3 K.length (K.flatMap snV),rws 48 K,row v1 2 1 C.σ.l.length (iV (C.σ.l.map zAD.t))] a w∧i≤C.σ.l.length∧sns K=C.σ.l.take i) ⟨0,.slice none 0 0,[],rfl,hs.sub (.c rfl (.c rfl (.c rfl (.c rfl (.c rfl .n))))),by omega,rfl⟩ ?_
 clear hs w a;rintro mm_ a w ⟨i,q,K,rfl,hs,hI1_0,hI1_1⟩
 revert a w hs
 refine go 1 [] [12,0,3,9,10,11] .n ?_
 refine ifG rfl (λc_2=>?_) (λc_2=>?_)
 ·
  refine go 0 [] [0,3,9,10,11] .n ?_
  intro a w hs;refine zA9 (j:=i) hs rfl rfl (zK (hs.mem.del (.s (.s .z)))) rfl (by omega) underlying71 sizeOf2 rfl ?_
  intro a w hs;refine zBf (u:=zI ((C.σ.l.map zAD.t).getD i 0)) hs rfl (zK (hs.mem.del (.s (.s .z)))) (zJX (C.σ.l.map zAD.t) i (by rw [List.length_map];omega)) isAgg2 rfl ?_
  have hLl:K.length=i:=by rw [← zAO K,hI1_1,List.length_take];omega
  refine goL 3 [] [17,16,0,3,9,10,11] .n ?_
  intro a w hs;refine zL hs (.c rfl (.c rfl .n)) call24 .n (zUY hY ((C.σ.l.map zAD.t).getD i 0) _ (hs.mem.keepH hp (by simp))) rfl ?_;clear hs w a;rintro _ _ a w ⟨v3,rfl,rfl⟩ hs
  revert a w hs
  refine goL 4 [] [6,20,19,0,3,9,10,11] .n (λg4=>?_)
  intro a w hs;refine zAU hs rfl rfl .z (.z (.c (.c (.c .n)))) (zF rfl (zF rfl (zF (zK (hs.mem.del (.s .z))).isSl.one zAX))) sizeOf46 rfl ?_
  refine zPd 6 2 [] [21,6,0,3,9,10,11] .n ?_
  have hb_:(zDl C.σ.l ((C.σ.l.map zAD.t).getD i 0))=true:=by rw [zRT (by omega)];exact zME (by omega)
  intro a w hs;rw [hb_] at hs;clear hb_
  revert a w hs
  refine go 4 [0] [24,22,0,9,10,11] (.c .z .n) ⟨rfl,λg5=>?_⟩
  intro a w hs;refine zBH (size:=3) (bytes:=40) hs rfl rfl (.s (.s (.s .z))) (zAJ (m:=1) (size:=3) (hs.mem.del .z) rfl (by decide)) (zF rfl (zF rfl (zF (zK (hs.mem.del (.s (.s .z)))).isSl.one zAX))) underlying37 (i:=Tryz.t46) rfl rfl rfl rfl rfl (by decide) (by omega) (by simp only [maxLen];omega) rfl ?_;intro v6
  refine cl (·.drop (.c (.s .z) .n)) ?_
  refine goL 3 [] [11,3,0,9,10] .n ⟨(by omega),?_⟩
  intro a w hs;replace hs:=hs.rerow .z (m':=(K++[(⟨(zCM C.σ.l ((C.σ.l.map zAD.t).getD i 0)).t,(zCM C.σ.l ((C.σ.l.map zAD.t).getD i 0)).tm,(zCM C.σ.l ((C.σ.l.map zAD.t).getD i 0)).l,v3⟩ : RI)]).length) (xs':=((K++[(⟨(zCM C.σ.l ((C.σ.l.map zAD.t).getD i 0)).t,(zCM C.σ.l ((C.σ.l.map zAD.t).getD i 0)).tm,(zCM C.σ.l ((C.σ.l.map zAD.t).getD i 0)).l,v3⟩ : RI)]).flatMap snV)) (by rw [List.length_append];rfl) (by rw [List.flatMap_append];rfl)
  replace hs:=hs.rwsSnoc (x:=(⟨(zCM C.σ.l ((C.σ.l.map zAD.t).getD i 0)).t,(zCM C.σ.l ((C.σ.l.map zAD.t).getD i 0)).tm,(zCM C.σ.l ((C.σ.l.map zAD.t).getD i 0)).l,v3⟩ : RI)) (.c (.s (.s (.s .z))) (.c (.s (.s .z)) .n))
  replace hs:=hs.drop (.c (.s (.s .z)) .n)
  replace hs:=hs.reorder (.c (.s .z) (.c .z (.c .z .n)))
  refine ⟨_,?_,(i+1),v6,(K++[(⟨(zCM C.σ.l ((C.σ.l.map zAD.t).getD i 0)).t,(zCM C.σ.l ((C.σ.l.map zAD.t).getD i 0)).tm,(zCM C.σ.l ((C.σ.l.map zAD.t).getD i 0)).l,v3⟩ : RI)]),rfl,hs.sub (.c rfl (.c rfl (.c rfl (.c rfl (.c rfl .n))))),by omega,zVH hst hI1_1 (by omega)⟩
  omega
 refine go 2 [] [2] .n ?_
 refine cl (·.drop (.c (.s (.s .z)) .n)) ?_
 intro a w hs;exact fin hs rfl rfl ⟨_,rfl,hI1_1.trans (List.take_of_length_le (by omega))⟩
theorem zRO (L:List RI) (hiv:∀ x∈L,zDj x.v x.l.length) (t:Int) (v:Value) (w0:World) (hb:Rd w0 [] v 3 L.length (L.flatMap snV)):Calls Tryz.prog 9 #[v,.int .i64 t] w0 (zAh w0 (zI (arn L t L.length))):=by
 have hle:=hb.le
 simp only [maxLen] at hle
 refine zG (F0:=[(0,v),(1,zI t)]) func9 rfl rfl rfl (.c (.c .n)) (Mem.nil _) ?_
 refine go 3 [] [8,5,1] .n ?_
 intro a w hs;refine zAG hs rfl (hs.rd0 hb).isSl underlying37 rfl ?_
 refine goL 1 [] [10,9,8,5,1] .n ?_
 intro a w hs;refine zCC (λmm_ a w=>∃ j:Nat,mm_=L.length-j∧St 22 [(1,zI t),(5,zI (arn L t j)),(8,v),(9,nI L.length),(10,nI j)] w0 [] [] a w∧j≤L.length) ⟨0,rfl,hs.sub (.c rfl (.c rfl (.c rfl (.c rfl (.c rfl .n))))),by omega⟩ ?_
 clear hs w a;rintro mm_ a w ⟨j,rfl,hs,hI1_0⟩
 revert a w hs
 refine go 1 [] [11,1,5,8,9,10] .n ?_
 refine ifG rfl (λc_1=>?_) (λc_1=>?_)
 ·
  refine go 1 [] [12,1,5,8,9,10] .n ?_
  intro a w hs;refine zBF (j:=j) hs rfl rfl (hs.rd0 hb) rfl (by omega) underlying37 sizeOf46 rfl ?_
  intro a w hs;refine zAx (cs:=snV (L.getD j default)) hs rfl (hs.rd0 hb) (zAZ zAm L j (by omega)) (by rw [zAN zAm];omega) (by omega) isAgg46 sizeOf46 rfl ?_
  refine goL 7 [50,0] [18,6,1,5,8,9,10] .n (λg2=>⟨rfl,(zF rfl (zF rfl (zF (hiv _ (zD1 (by omega))).one zAX))),rfl,?_⟩)
  refine ifG rfl (λc_3=>?_) (λc_3=>?_)
  ·
   refine go 4 [] [10,5,1,8,9] .n ⟨(by omega),?_⟩
   intro a w hs;replace hs:=hs.sub (F':=[(10,zI (((j:Nat):Int)+1)),(5,zI (arn L t (j+1))),(1,zI t),(8,v),(9,nI L.length)]) (.c rfl (.c (by rw [zcE (L:=L) (t:=t) (k:=j) (by assumption)];rfl) (.c rfl (.c rfl (.c rfl .n)))))
   replace hs:=hs.drop (.c .z .n)
   refine ⟨_,?_,(j+1),rfl,hs.sub (.c rfl (.c rfl (.c rfl (.c rfl (.c rfl .n))))),by omega⟩
   omega
  refine go 2 [] [10,1,5,8,9] .n ⟨(by omega),?_⟩
  intro a w hs;replace hs:=hs.sub (F':=[(10,zI (((j:Nat):Int)+1)),(1,zI t),(5,zI (arn L t (j+1))),(8,v),(9,nI L.length)]) (.c rfl (.c rfl (.c (by rw [zci (L:=L) (t:=t) (k:=j) (by assumption)];rfl) (.c rfl (.c rfl .n)))))
  replace hs:=hs.drop (.c .z .n)
  refine ⟨_,?_,(j+1),rfl,hs.sub (.c rfl (.c rfl (.c rfl (.c rfl (.c rfl .n))))),by omega⟩
  omega
 refine go 2 [] [4] .n ?_
 intro a w hs;exact fin hs rfl rfl ⟨by rw [show j=L.length by omega],rfl⟩
theorem Cli.nd {g:Nat} {c:zAS} {C:CS} {Y:HA} {w:World} (h:Cli g c C Y) (hp:Y.p w):(zN [Y]).Nodup:=by obtain ⟨_,_,_,_,rfl⟩:=h;rw [zBw];exact hp.2
theorem zPM {g:Nat} {c:zAS} {C:CS} {Y:HA} (hY:Cli g c C Y) (hk:zCb c=0) (hC:C.ok c) (hn:∀ i,C.σ.n i≤1000000) (hfr:C.fr≤1000000) (xe:EvR) (hx:R64 xe.at_) (w0:World) (hp:Y.p w0) (hb:Rd w0 (zN [Y]) xe.v 1 xe.bs.length (zD xe.bs)):Calls Tryz.prog 31 #[pt g 0,.agg #[zI xe.k,zI xe.at_,xe.v]] w0 (Ret w0 (zN [Y]) λu N=>∃ v,u = .tuple #[.agg #[.bool (⟨false,0,[]⟩ : ShR).ready,zI (⟨false,0,[]⟩ : ShR).time,v],nI (zG1 c C (zA xe.bs))]∧∃ Y',N=[row v 43 6 (⟨false,0,[]⟩ : ShR).l.length ((⟨false,0,[]⟩ : ShR).l.flatMap zBk),Y']∧Cli g c (zNR c C xe.at_ (zA xe.bs)) Y'):=by
 refine zG (F0:=[(0,pt g 0),(1,.agg #[zI xe.k,zI xe.at_,xe.v])]) func31 rfl rfl rfl (.c (.c .n)) (zAq hp (by simpa [zN] using Cli.nd hY hp)) ?_
 refine go 9 [0,1,1] [11,9,7,6,4] .n (λg1=>λg2=>⟨rfl,rfl,?_⟩)
 intro a w hs;refine zL hs (.c rfl (.c rfl (.c rfl .n))) call28 (.c (.s (.s .z)) .n) (zMh hY hk hC hn hfr xe.at_ ⟨by omega,by omega⟩ _ (hs.mem.del (.s (.s .z))) (hs.mem.rd1 hb (.c (.s (.s .z)) .n))) rfl ?_;clear hs w a;rintro _ _ a w ⟨rfl,Y3,rfl,hY4⟩ hs
 revert a w hs
 refine goL 2 [0] [5,4] (.c (.s .z) .n) ⟨rfl,?_⟩
 refine cl (·.addNil 43 6) ?_
 refine cl (·.drop (.c (.s (.s (.s .z))) .n)) ?_
 refine cl (·.reorder (.c .z (.c (.s .z) (.c .z .n)))) ?_
 intro a w hs;exact zBM hs rfl rfl rfl (.s (.s .z)) (.z (.c (.c (.c .n)))) isAgg33 sizeOf33 (.c (.s (.s .z)) .n) ⟨_,rfl,_,rfl,hY4⟩
theorem zRQ {g:Nat} {c:zAS} {C:CS} {Y:HA} (hY:Cli g c C Y) (hk:zCb c=0) (hC:C.ok c) (hn:∀ i,C.σ.n i≤1000000) (hfr:C.fr≤1000000) (xe:EvR) (hx:R64 xe.at_) (w0:World) (hp:Y.p w0) (hb:Rd w0 (zN [Y]) xe.v 1 xe.bs.length (zD xe.bs)):Calls Tryz.prog 32 #[pt g 0,.agg #[zI xe.k,zI xe.at_,xe.v]] w0 (Ret w0 (zN [Y]) λu N=>∃ v,u = .tuple #[.agg #[.bool (zB1 c C xe.at_).ready,zI (zB1 c C xe.at_).time,v],nI 0]∧∃ Y',N=[row v 43 6 (zB1 c C xe.at_).l.length ((zB1 c C xe.at_).l.flatMap zBk),Y']∧Cli g c (zTQ c C xe.at_) Y'):=by
 refine zG (F0:=[(0,pt g 0),(1,.agg #[zI xe.k,zI xe.at_,xe.v])]) func32 rfl rfl rfl (.c (.c .n)) (zAq hp (by simpa [zN] using Cli.nd hY hp)) ?_
 refine go 6 [0,1] [8,6,4] .n (λg1=>λg2=>⟨rfl,?_⟩)
 intro a w hs;refine zL hs (.c rfl (.c rfl .n)) call30 (.c (.s (.s .z)) .n) (zJ7 hY hk hC hn hfr xe.at_ ⟨by omega,by omega⟩ _ (hs.mem.del (.s (.s .z)))) rfl ?_;clear hs w a;rintro _ _ a w ⟨v5,rfl,Y3,rfl,hY4⟩ hs
 refine zAU hs rfl rfl (.s (.s .z)) (.z (.c (.c (.c .n)))) (zF rfl (zF rfl (zF (zK (hs.mem.del .z)).isSl.one zAX))) sizeOf33 rfl ?_
 refine goL 1 [] [5,4] .n ?_
 refine cl (·.drop (.c (.s (.s (.s .z))) .n)) ?_
 refine cl (·.reorder (.c (.s .z) (.c (.s .z) (.c .z .n)))) ?_
 intro a w hs;exact zBM hs rfl rfl rfl (.s (.s .z)) (.z (.c (.c (.c .n)))) isAgg33 sizeOf33 (.c (.s (.s .z)) .n) ⟨_,rfl,_,rfl,hY4⟩
theorem zcY {g:Nat} {c:zAS} {C:CS} {Y:HA} (hY:Cli g c C Y) (hk:zCb c=0) (hC:C.ok c) (hn:∀ i,C.σ.n i≤1000000) (hfr:C.fr≤1000000) (xe:EvR) (hx:R64 xe.at_) (w0:World) (hp:Y.p w0) (hb:Rd w0 (zN [Y]) xe.v 1 xe.bs.length (zD xe.bs)):Calls Tryz.prog 7 #[pt g 0,.agg #[zI 0,zI xe.at_,xe.v]] w0 (Ret w0 (zN [Y]) λu N=>∃ v,u = .tuple #[.agg #[.bool (⟨false,0,[]⟩ : ShR).ready,zI (⟨false,0,[]⟩ : ShR).time,v],nI (zG1 c C (zA xe.bs))]∧∃ Y',N=[row v 43 6 (⟨false,0,[]⟩ : ShR).l.length ((⟨false,0,[]⟩ : ShR).l.flatMap zBk),Y']∧Cli g c (zNR c C xe.at_ (zA xe.bs)) Y'):=by
 refine zG (F0:=[(0,pt g 0),(1,.agg #[zI 0,zI xe.at_,xe.v])]) func7 rfl rfl rfl (.c (.c .n)) (zAq hp (by simpa [zN] using Cli.nd hY hp)) ?_
 refine go 6 [0] [4,3,0] .n (λg1=>λg2=>?_)
 intro a w hs;refine zHb hs rfl ?_;intro g3
 refine goL 2 [] [14,12,4,3,0] .n ?_
 intro a w hs;refine zJB (u:=.func (.func 31) #[pt g 0] #[]) (kv':=[(0,.func (.func 31) #[pt g 0] #[])]) hs rfl rfl rfl .z underlying89 underlying3 rfl ?_
 refine goL 2 [] [16,12,4,3] .n ?_
 intro a w hs;refine zJB (u:=.func (.func 32) #[pt g 0] #[]) (kv':=[(0,.func (.func 31) #[pt g 0] #[]),(1,.func (.func 32) #[pt g 0] #[])]) hs rfl rfl rfl .z underlying89 underlying3 rfl ?_
 refine goL 3 [0] [19,17,4,3] (.c (.s (.s .z)) .n) ⟨rfl,?_⟩
 intro a w hs;refine zJm (v:=.func (.func 31) #[pt g 0] #[]) (b:=true) hs rfl rfl (.s .z) underlying89 underlying3 zeroValue36 rfl rfl rfl ?_
 refine goL 10 [0] [27,26,4] (.c .z .n) ⟨rfl,?_⟩
 intro a w hs;refine zFH (fs:=[pt g 0]) (us:=[]) hs rfl (.c rfl .n) rfl call31 (.c (.s (.s (.s .z))) .n) (zPM hY hk hC hn hfr (⟨0,xe.at_,xe.v,xe.bs⟩ : EvR) hx _ (hs.mem.del (.s (.s (.s .z)))) (hs.mem.rd1 hb (.c (.s (.s (.s .z))) .n))) rfl ?_;clear hs w a;rintro _ _ a w ⟨v6,rfl,Y4,rfl,hY5⟩ hs
 revert a w hs
 refine goL 2 [] [30,29,4] .n ?_
 intro a w hs;refine zAU hs rfl rfl (.s (.s (.s (.s .z)))) (.z (.c (.c (.c .n)))) (zF rfl (zF rfl (zF (zK (hs.mem.del .z)).isSl.one zAX))) sizeOf33 rfl ?_
 refine goL 1 [] [5,4] .n ?_
 refine cl (·.drop (.c (.s (.s (.s (.s .z)))) (.c (.s (.s (.s .z))) .n))) ?_
 refine cl (·.reorder (.c (.s .z) (.c (.s .z) (.c .z .n)))) ?_
 intro a w hs;exact zBM hs rfl rfl rfl (.s (.s .z)) (.z (.c (.c (.c .n)))) isAgg33 sizeOf33 (.c (.s (.s .z)) .n) ⟨_,rfl,_,rfl,hY5⟩
theorem zcL {g:Nat} {c:zAS} {C:CS} {Y:HA} (hY:Cli g c C Y) (hk:zCb c=0) (hC:C.ok c) (hn:∀ i,C.σ.n i≤1000000) (hfr:C.fr≤1000000) (xe:EvR) (hx:R64 xe.at_) (w0:World) (hp:Y.p w0) (hb:Rd w0 (zN [Y]) xe.v 1 xe.bs.length (zD xe.bs)):Calls Tryz.prog 7 #[pt g 0,.agg #[zI 1,zI xe.at_,xe.v]] w0 (Ret w0 (zN [Y]) λu N=>∃ v,u = .tuple #[.agg #[.bool (zB1 c C xe.at_).ready,zI (zB1 c C xe.at_).time,v],nI 0]∧∃ Y',N=[row v 43 6 (zB1 c C xe.at_).l.length ((zB1 c C xe.at_).l.flatMap zBk),Y']∧Cli g c (zTQ c C xe.at_) Y'):=by
 refine zG (F0:=[(0,pt g 0),(1,.agg #[zI 1,zI xe.at_,xe.v])]) func7 rfl rfl rfl (.c (.c .n)) (zAq hp (by simpa [zN] using Cli.nd hY hp)) ?_
 refine go 6 [0] [4,3,0] .n (λg1=>λg2=>?_)
 intro a w hs;refine zHb hs rfl ?_;intro g3
 refine goL 2 [] [14,12,4,3,0] .n ?_
 intro a w hs;refine zJB (u:=.func (.func 31) #[pt g 0] #[]) (kv':=[(0,.func (.func 31) #[pt g 0] #[])]) hs rfl rfl rfl .z underlying89 underlying3 rfl ?_
 refine goL 2 [] [16,12,4,3] .n ?_
 intro a w hs;refine zJB (u:=.func (.func 32) #[pt g 0] #[]) (kv':=[(0,.func (.func 31) #[pt g 0] #[]),(1,.func (.func 32) #[pt g 0] #[])]) hs rfl rfl rfl .z underlying89 underlying3 rfl ?_
 refine goL 3 [0] [19,17,4,3] (.c (.s (.s .z)) .n) ⟨rfl,?_⟩
 intro a w hs;refine zJm (v:=.func (.func 32) #[pt g 0] #[]) (b:=true) hs rfl rfl (.s .z) underlying89 underlying3 zeroValue36 rfl rfl rfl ?_
 refine goL 10 [0] [27,26,4] (.c .z .n) ⟨rfl,?_⟩
 intro a w hs;refine zFH (fs:=[pt g 0]) (us:=[]) hs rfl (.c rfl .n) rfl call32 (.c (.s (.s (.s .z))) .n) (zRQ hY hk hC hn hfr (⟨1,xe.at_,xe.v,xe.bs⟩ : EvR) hx _ (hs.mem.del (.s (.s (.s .z)))) (hs.mem.rd1 hb (.c (.s (.s (.s .z))) .n))) rfl ?_;clear hs w a;rintro _ _ a w ⟨v6,rfl,Y4,rfl,hY5⟩ hs
 revert a w hs
 refine goL 2 [] [30,29,4] .n ?_
 intro a w hs;refine zAU hs rfl rfl (.s (.s (.s (.s .z)))) (.z (.c (.c (.c .n)))) (zF rfl (zF rfl (zF (zK (hs.mem.del .z)).isSl.one zAX))) sizeOf33 rfl ?_
 refine goL 1 [] [5,4] .n ?_
 refine cl (·.drop (.c (.s (.s (.s (.s .z)))) (.c (.s (.s (.s .z))) .n))) ?_
 refine cl (·.reorder (.c (.s .z) (.c (.s .z) (.c .z .n)))) ?_
 intro a w hs;exact zBM hs rfl rfl rfl (.s (.s .z)) (.z (.c (.c (.c .n)))) isAgg33 sizeOf33 (.c (.s (.s .z)) .n) ⟨_,rfl,_,rfl,hY5⟩
theorem zcM {g:Nat} {c:zAS} {C:CS} {Y:HA} (hY:Cli g c C Y) (hk:zCb c=0) (hC:C.ok c) (hn:∀ i,C.σ.n i≤1000000) (hfr:C.fr≤1000000) (xe:EvR) (hx:R64 xe.at_) (w0:World) (hp:Y.p w0) (hb:Rd w0 (zN [Y]) xe.v 1 xe.bs.length (zD xe.bs)) (h0:xe.k≠0) (h1:xe.k≠1):Calls Tryz.prog 7 #[pt g 0,.agg #[zI xe.k,zI xe.at_,xe.v]] w0 (Ret w0 (zN [Y]) λu N=>∃ v,u = .tuple #[.agg #[.bool (⟨false,0,[]⟩ : ShR).ready,zI (⟨false,0,[]⟩ : ShR).time,v],nI 11]∧∃ Y',N=[row v 43 6 (⟨false,0,[]⟩ : ShR).l.length ((⟨false,0,[]⟩ : ShR).l.flatMap zBk),Y']∧Cli g c C Y'):=by
 refine zG (F0:=[(0,pt g 0),(1,.agg #[zI xe.k,zI xe.at_,xe.v])]) func7 rfl rfl rfl (.c (.c .n)) (zAq hp (by simpa [zN] using Cli.nd hY hp)) ?_
 refine go 6 [0] [4,3,0] .n (λg1=>λg2=>?_)
 intro a w hs;refine zHb hs rfl ?_;intro g3
 refine goL 2 [] [14,12,4,3,0] .n ?_
 intro a w hs;refine zJB (u:=.func (.func 31) #[pt g 0] #[]) (kv':=[(0,.func (.func 31) #[pt g 0] #[])]) hs rfl rfl rfl .z underlying89 underlying3 rfl ?_
 refine goL 2 [] [16,12,4,3] .n ?_
 intro a w hs;refine zJB (u:=.func (.func 32) #[pt g 0] #[]) (kv':=[(0,.func (.func 31) #[pt g 0] #[]),(1,.func (.func 32) #[pt g 0] #[])]) hs rfl rfl rfl .z underlying89 underlying3 rfl ?_
 refine goL 3 [0] [19,17,4,3] (.c (.s (.s .z)) .n) ⟨rfl,?_⟩
 intro a w hs;refine zJm (v:=.nilFunc) (b:=false) hs rfl rfl (.s .z) underlying89 underlying3 zeroValue36 (by rw [zNw h0 h1];rfl) (by rw [zNw h0 h1];rfl) rfl ?_
 refine goL 11 [0] [5,4] (.c (.s (.s .z)) .n) ⟨rfl,?_⟩
 refine cl (·.addNil 43 6) ?_
 refine cl (·.drop (.c (.s (.s (.s .z))) (.c (.s (.s .z)) .n))) ?_
 refine cl (·.reorder (.c .z (.c (.s .z) (.c .z .n)))) ?_
 intro a w hs;exact zBM hs rfl rfl rfl (.s (.s .z)) (.z (.c (.c (.c .n)))) isAgg33 sizeOf33 (.c (.s (.s .z)) .n) ⟨_,rfl,_,rfl,hY⟩
theorem zbV {g:Nat} {c:zAS} {C:CS} {Y:HA} (hY:Cli g c C Y) (hk:zCb c=0) (hC:C.ok c) (hn:∀ i,C.σ.n i≤1000000) (hfr:C.fr≤1000000) (xe:EvR) (hx:R64 xe.at_) (w0:World) (hp:Y.p w0) (hb:Rd w0 (zN [Y]) xe.v 1 xe.bs.length (zD xe.bs)) (hxk:R64 xe.k):Calls Tryz.prog 7 #[pt g 0,.agg #[zI xe.k,zI xe.at_,xe.v]] w0 (Ret w0 (zN [Y]) λu N=>∃ v,u = .tuple #[.agg #[.bool (zV c C xe).ready,zI (zV c C xe).time,v],nI (zbz c C xe)]∧∃ Y',N=[row v 43 6 (zV c C xe).l.length ((zV c C xe).l.flatMap zBk),Y']∧Cli g c (cDo c C xe) Y'):=by
 by_cases h0:xe.k=0
 ·have h:=zcY hY hk hC hn hfr xe hx w0 hp hb
  rw [show zV c C xe=⟨false,0,[]⟩ from if_neg (by omega),show zbz c C xe=zG1 c C (zA xe.bs) from if_pos h0,show cDo c C xe=zNR c C xe.at_ (zA xe.bs) from if_pos h0,h0]
  exact h
 ·by_cases h1:xe.k=1
  ·have h:=zcL hY hk hC hn hfr xe hx w0 hp hb
   rw [show zV c C xe=zB1 c C xe.at_ from if_pos h1,show zbz c C xe=0 from (if_neg h0).trans (if_pos h1),show cDo c C xe=zTQ c C xe.at_ from (if_neg h0).trans (if_pos h1),h1]
   exact h
  ·have h:=zcM hY hk hC hn hfr xe hx w0 hp hb h0 h1
   rw [show zV c C xe=⟨false,0,[]⟩ from if_neg h1,show zbz c C xe=11 from (if_neg h0).trans (if_neg h1),show cDo c C xe=C from (if_neg h0).trans (if_neg h1)]
   exact h
end Go.Proofs.YtljpfgacpofkpaaGreat
