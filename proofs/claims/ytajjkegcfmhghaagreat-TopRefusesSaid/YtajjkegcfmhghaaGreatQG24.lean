import Derived.Test.YtajjkegcfmhghaaGreatQG8
import Derived.Test.YtajjkegcfmhghaaGreatQG23
import Derived.Test.YtajjkegcfmhghaaGreatQSxBasB
import Derived.Test.YtajjkegcfmhghaaGreatQG15
set_option linter.unusedVariables false
set_option linter.unusedSimpArgs false
namespace Go.Proofs.YtajjkegcfmhghaaGreat
open Tryz
open Go Go.Sx Go.RowKit
set_option maxRecDepth 4000
set_option maxHeartbeats 1000000
theorem Cli.oks {g:Nat} {c:zAG} {C:CS} {Y:HA} (h:Cli g c C Y):Oks C.σ.l c.keep:=by obtain ⟨_,_,_,h,_⟩:=h;exact h.oks
theorem zU2 (w0:World):Calls Tryz.prog 23 #[] w0 (zAf w0 (.agg #[zI 8,zI 4,zI 0,zI 0,zI 0,zI 0,zI 0,zI 1,zI 1,zI 5,.bool (false)])):=by
 refine zG (F0:=[]) func23 rfl rfl rfl .n (Mem.nil _) ?_
 refine go 3 [0] [0] .n (λg1=>⟨rfl,?_⟩)
 intro a w hs;exact zM6 hs rfl rfl .z (.z (.c (.c (.c (.c (.c (.c (.c (.c (.c (.c (.c .n)))))))))))) isAgg23 sizeOf23 (.c .z .n) ⟨rfl,rfl⟩
theorem zO4 (t tm:Int) (u:Value) (l:List zS) (w0:World) (ht : -9223372036854775808≤t∧t≤9223372036854775807) (htm : -9223372036854775808≤tm∧tm≤9223372036854775807) (hc:Rd w0 [] u 9 l.length (l.flatMap zBJ)) (hw:∀ x∈l,x.wf):Calls Tryz.prog 24 #[.agg #[zI t,zI tm,u]] w0 (Ret w0 [] λv N=>N=[row v 5 1 (zOy t tm l).length (zC (zOy t tm l))]):=by
 have hce:=hc.le
 simp only [maxLen] at hce
 refine zG (F0:=[(0,.agg #[zI t,zI tm,u])]) func24 rfl rfl rfl (.c .n) (Mem.nil _) ?_
 refine go 3 [0,0] [8] .n (λg1=>⟨rfl,?_⟩)
 intro a w hs;refine zK hs (.c rfl .n) call47 .n (zan t tm _ l _ (by omega) (by omega) (hs.rd0 hc) hw) rfl ?_;clear hs w a;rintro _ _ a w ⟨v2,rfl,rfl⟩ hs
 have hk3:=zck (bt:=t) (btm:=tm) (b:=l)
 revert a w hs
 refine goL 4 [] [3,11,10] .n (λg4=>?_)
 intro a w hs;refine zAb hs rfl rfl .z (.z (.c (.c (.c (.c .n))))) (zJ rfl (zJ rfl (zJ rfl (zJ (zP (hs.mem.del (.s .z))).isSl.one zAe)))) sizeOf62 rfl ?_
 refine goL 2 [0] [13] (.c .z .n) ⟨rfl,?_⟩
 intro a w hs;refine zK hs (.c rfl .n) call15 .n (zTw ((fG t tm l).t) ((fG t tm l).tm) ((fG t tm l).b) _ ((fG t tm l).l) _ (by omega) (by omega) (by omega) (zP (hs.mem.del (.s .z))) (zYZ hw)) rfl ?_;clear hs w a;rintro _ _ a w ⟨v5,rfl,rfl⟩ hs
 have hk6:=zDT ((fG t tm l).t) ((fG t tm l).tm) ((fG t tm l).b) ((fG t tm l).l)
 revert a w hs
 refine goL 7 [] [2] .n ?_
 refine cl (·.drop (.c (.s (.s (.s .z))) (.c (.s (.s .z)) (.c (.s .z) .n)))) ?_
 intro a w hs;exact fin hs rfl rfl rfl
theorem zIf (w0:World):Calls Tryz.prog 7 #[] w0 (zAf w0 (.bool true)):=by
 have e1:=zd5;have e2:=zd3;have e3:=zdx;have e4:=zd6;have e5:=zd1
 unfold tS4 at e5;unfold tS3 at e4 e5;unfold tS2 at e3 e4 e5;unfold tS1 at e2 e3 e4 e5;unfold tEn at e1 e2 e3 e4 e5
 refine zG (F0:=[]) func7 rfl rfl rfl .n (Mem.nil _) ?_
 refine go 14 [0,0] [2,1] .n (λg1=>λg2=>⟨rfl,λg3=>λg4=>⟨rfl,?_⟩⟩)
 intro a w hs;refine zB (v:=.agg #[zI 8,zI 4,zI 0,zI 0,zI 0,zI 0,zI 0,zI 1,zI 1,zI 5,.bool (false)]) hs .n call23 (zU2 _) rfl ?_
 intro a w hs;refine zK hs (.c rfl .n) call22 .n (zTV plC zVp _) rfl ?_;clear hs w a;rintro _ _ a w ⟨g5,Y6,rfl,rfl,hY7⟩ hs
 revert a w hs
 refine goL 14 [0] [30,29,28,3,2] (.c (.s (.s (.s .z))) .n) ⟨rfl,?_⟩
 intro a w hs;refine zF hs rfl rfl rfl ?_
 refine zK hs (.c rfl .n) call24 .n (zO4 1 0 _ ([(⟨1,0,0,0,65536,0,0,0#16,0#8⟩ : zS)]:List zS) _ (by omega) (by omega) (zAJ (m:=1) (size:=9) (hs.mem.del (.s (.s (.s (.s .z))))) rfl (by decide)) (zPB (by omega))) rfl ?_;clear hs w a;rintro v8 _ a w rfl hs
 have hk9:=zIX 1 0 ([(⟨1,0,0,0,65536,0,0,0#16,0#8⟩ : zS)]:List zS)
 refine zF hs rfl rfl rfl ?_
 refine zK hs (.c rfl (.c rfl (.c rfl .n))) call18 (.c (.s (.s .z)) .n) (zHM hY7 zVp zXp zde zSs 100 (by decide) _ (hs.mem.del (.s (.s .z))) (hs.mem.rdrow .z (.c (.s .z) .n))) rfl ?_;clear hs w a;rintro _ _ a w ⟨rfl,Y10,rfl,hY11⟩ hs
 revert a w hs
 refine goL 1 [] [33,28,3,2] .n ?_
 have hb_:(!((((zA7 plC (C0 plC) (zA (zOy 1 0 ([(⟨1,0,0,0,65536,0,0,0#16,0#8⟩ : zS)]:List zS))):Nat):Int):Int)==0))=false:=by rw [e1]<;>rfl
 intro a w hs;rw [hb_] at hs;clear hb_
 revert a w hs
 refine go 4 [0] [37,36,35,3] (.c (.s (.s (.s .z))) .n) ⟨rfl,?_⟩
 intro a w hs;refine zF hs rfl rfl rfl ?_
 refine zK hs (.c rfl .n) call24 .n (zO4 2 10 _ ([(⟨1,10,0,0,65536,0,0,0#16,0#8⟩ : zS)]:List zS) _ (by omega) (by omega) (zAJ (m:=1) (size:=9) (hs.mem.del (.s (.s (.s (.s .z))))) rfl (by decide)) (zPB (by omega))) rfl ?_;clear hs w a;rintro v12 _ a w rfl hs
 have hk13:=zIX 2 10 ([(⟨1,10,0,0,65536,0,0,0#16,0#8⟩ : zS)]:List zS)
 refine zF hs rfl rfl rfl ?_
 refine zK hs (.c rfl (.c rfl (.c rfl .n))) call18 (.c (.s (.s .z)) .n) (zHM hY11 zVp zXb zdP zSs 110 (by decide) _ (hs.mem.del (.s (.s .z))) (hs.mem.rdrow .z (.c (.s .z) .n))) rfl ?_;clear hs w a;rintro _ _ a w ⟨rfl,Y14,rfl,hY15⟩ hs
 revert a w hs
 refine goL 1 [] [40,35,3] .n ?_
 have hb_:(!((((zA7 plC (zBG plC (C0 plC) 100 (zA (zOy 1 0 ([(⟨1,0,0,0,65536,0,0,0#16,0#8⟩ : zS)]:List zS)))) (zA (zOy 2 10 ([(⟨1,10,0,0,65536,0,0,0#16,0#8⟩ : zS)]:List zS))):Nat):Int):Int)==0))=false:=by rw [e2]<;>rfl
 intro a w hs;rw [hb_] at hs;clear hb_
 revert a w hs
 refine go 3 [] [42,3] .n ?_
 intro a w hs;refine zK hs (.c rfl (.c rfl .n)) call25 (.c .z .n) (zLG hY15 zVp zXH zZs zSs 104 (by decide) _ (hs.mem.del .z)) rfl ?_;clear hs w a;rintro _ _ a w ⟨v18,rfl,Y16,rfl,hY17⟩ hs
 rw [e3] at hs
 replace hs:=hs.rerow .z (m':=1) (xs':=[zI 1,zI 4,zI 0,zI 0,.int .u16 (((0#16).toNat:Nat):Int),zI 1]) rfl rfl
 revert a w hs
 refine goL 1 [] [44,43,3] .n ?_
 intro a w hs;refine zK hs (.c rfl (.c rfl .n)) call25 (.c (.s .z) .n) (zLG hY17 zVp zXZ zZs zcV 113 (by decide) _ (hs.mem.del (.s .z))) rfl ?_;clear hs w a;rintro _ _ a w ⟨v21,rfl,Y19,rfl,hY20⟩ hs
 rw [e4] at hs
 replace hs:=hs.rerow .z (m':=1) (xs':=[zI 1,zI 13,zI 0,zI 0,.int .u16 (((0#16).toNat:Nat):Int),zI 3]) rfl rfl
 revert a w hs
 refine goL 1 [] [46,45,43] .n ?_
 intro a w hs;refine zK hs (.c rfl (.c rfl .n)) call25 (.c (.s .z) .n) (zLG hY20 zVp zcM zZs zbe 900 (by decide) _ (hs.mem.del (.s .z))) rfl ?_;clear hs w a;rintro _ _ a w ⟨v24,rfl,Y22,rfl,hY23⟩ hs
 rw [e5] at hs
 replace hs:=hs.rerow .z (m':=1) (xs':=[zI 1,zI 15,zI 0,zI 0,.int .u16 (((0#16).toNat:Nat):Int),zI 4]) rfl rfl
 revert a w hs
 refine goL 3 [] [7,6,5,47,45,43] .n (λg25=>λg26=>λg27=>?_)
 intro a w hs;refine zAb hs rfl rfl (.s (.s .z)) (.z (.c (.c (.c .n)))) (zJ rfl (zJ rfl (zJ (zP (hs.mem.del (.s (.s (.s (.s (.s (.s .z)))))))).isSl.one zAe))) sizeOf33 rfl ?_
 intro a w hs;refine zAb hs rfl rfl (.s (.s .z)) (.z (.c (.c (.c .n)))) (zJ rfl (zJ rfl (zJ (zP (hs.mem.del (.s (.s (.s (.s (.s .z))))))).isSl.one zAe))) sizeOf33 rfl ?_
 intro a w hs;refine zAb hs rfl rfl (.s (.s .z)) (.z (.c (.c (.c .n)))) (zJ rfl (zJ rfl (zJ (zP (hs.mem.del (.s (.s (.s .z))))).isSl.one zAe))) sizeOf33 rfl ?_
 refine goL 2 [0] [49,7,6,5] (.c (.s (.s .z)) .n) ⟨rfl,?_⟩
 intro a w hs;refine zAC hs rfl (zP (hs.mem.del (.s (.s (.s (.s (.s (.s .z)))))))).isSl underlying31 rfl ?_
 refine cl (·.recell (v':=zI 1) (Option.some.inj rfl)) ?_
 refine goL 4 [0] [54,52,7,6] (.c .z .n) ⟨rfl,?_⟩
 intro a w hs;refine zF hs rfl rfl rfl ?_
 refine zBm (j:=0) hs rfl rfl (zP (hs.mem.del (.s (.s (.s (.s (.s (.s .z)))))))) (by decide) (by omega) underlying31 sizeOf43 rfl ?_
 intro a w hs;refine zF hs rfl rfl rfl ?_
 refine zA9 (cs:=[zI 1,zI 4,zI 0,zI 0,.int .u16 (((0#16).toNat:Nat):Int),zI 1]) hs rfl (zP (hs.mem.del (.s (.s (.s (.s (.s (.s .z)))))))) (by rfl) (by simp) (by decide) isAgg43 sizeOf43 rfl ?_
 refine goL 3 [] [59,52,7,6] .n ⟨by kernel_rfl,?_⟩
 have hb_:(zAD [zI 1,zI 4,zI 0,zI 0,.int .u16 (((0#16).toNat:Nat):Int),zI 1] [zI 1,zI 4,zI 0,zI 0,.int .u16 (0),zI 1])=true:=by decide
 intro a w hs;rw [hb_] at hs;clear hb_
 revert a w hs
 refine go 4 [0] [63,61,7,6] (.c (.s (.s .z)) .n) ⟨rfl,?_⟩
 intro a w hs;refine zF hs rfl rfl rfl ?_
 refine zAC hs rfl (zP (hs.mem.del (.s (.s (.s (.s (.s .z))))))).isSl underlying31 rfl ?_
 refine cl (·.recell (v':=zI 1) (Option.some.inj rfl)) ?_
 refine goL 5 [0] [69,67,7] (.c .z .n) ⟨rfl,?_⟩
 intro a w hs;refine zF hs rfl rfl rfl ?_
 refine zBm (j:=0) hs rfl rfl (zP (hs.mem.del (.s (.s (.s (.s (.s .z))))))) (by decide) (by omega) underlying31 sizeOf43 rfl ?_
 intro a w hs;refine zF hs rfl rfl rfl ?_
 refine zA9 (cs:=[zI 1,zI 13,zI 0,zI 0,.int .u16 (((0#16).toNat:Nat):Int),zI 3]) hs rfl (zP (hs.mem.del (.s (.s (.s (.s (.s .z))))))) (by rfl) (by simp) (by decide) isAgg43 sizeOf43 rfl ?_
 refine goL 3 [] [74,67,7] .n ⟨by kernel_rfl,?_⟩
 have hb_:(zAD [zI 1,zI 13,zI 0,zI 0,.int .u16 (((0#16).toNat:Nat):Int),zI 3] [zI 1,zI 13,zI 0,zI 0,.int .u16 (0),zI 3])=true:=by decide
 intro a w hs;rw [hb_] at hs;clear hb_
 revert a w hs
 refine go 4 [0] [78,76,7] (.c (.s (.s .z)) .n) ⟨rfl,?_⟩
 intro a w hs;refine zF hs rfl rfl rfl ?_
 refine zAC hs rfl (zP (hs.mem.del (.s (.s (.s .z))))).isSl underlying31 rfl ?_
 refine cl (·.recell (v':=zI 1) (Option.some.inj rfl)) ?_
 refine goL 5 [0] [84,82] (.c .z .n) ⟨rfl,?_⟩
 intro a w hs;refine zF hs rfl rfl rfl ?_
 refine zBm (j:=0) hs rfl rfl (zP (hs.mem.del (.s (.s (.s .z))))) (by decide) (by omega) underlying31 sizeOf43 rfl ?_
 intro a w hs;refine zF hs rfl rfl rfl ?_
 refine zA9 (cs:=[zI 1,zI 15,zI 0,zI 0,.int .u16 (((0#16).toNat:Nat):Int),zI 4]) hs rfl (zP (hs.mem.del (.s (.s (.s .z))))) (by rfl) (by simp) (by decide) isAgg43 sizeOf43 rfl ?_
 refine goL 3 [] [89,82] .n ⟨by kernel_rfl,?_⟩
 have hb_:(zAD [zI 1,zI 15,zI 0,zI 0,.int .u16 (((0#16).toNat:Nat):Int),zI 4] [zI 1,zI 15,zI 0,zI 0,.int .u16 (0),zI 4])=true:=by decide
 intro a w hs;rw [hb_] at hs;clear hb_
 revert a w hs
 refine go 2 [] [0] .n ?_
 refine cl (·.drop (.c (.s (.s (.s (.s (.s (.s (.s (.s (.s (.s (.s (.s .z)))))))))))) (.c (.s (.s (.s (.s (.s (.s (.s (.s (.s (.s (.s .z))))))))))) (.c (.s (.s (.s (.s (.s (.s (.s (.s (.s (.s .z)))))))))) (.c (.s (.s (.s (.s (.s (.s (.s (.s (.s .z))))))))) (.c (.s (.s (.s (.s (.s (.s (.s (.s .z)))))))) (.c (.s (.s (.s (.s (.s (.s (.s .z))))))) (.c (.s (.s (.s (.s (.s (.s .z)))))) (.c (.s (.s (.s (.s (.s .z))))) (.c (.s (.s (.s (.s .z)))) (.c (.s (.s (.s .z))) (.c (.s (.s .z)) (.c (.s .z) (.c .z .n)))))))))))))) ?_
 intro a w hs;exact fin hs rfl rfl ⟨rfl,rfl⟩
theorem zdf (u:Value) (L:List EvR) (w0:World) (hu:Rd w0 [] u 3 L.length (L.flatMap evV)) (hL:∀ x∈L,x.ok w0) (hg:Grt L):Calls Tryz.prog 21 #[u] w0 (zAf w0 (.int .i64 1)):=by
 have hue:=hu.le
 simp only [maxLen] at hue
 unfold Grt at hg
 refine zG (F0:=[(0,u)]) func21 rfl rfl rfl (.c .n) (Mem.nil _) ?_
 refine go 3 [] [6,3,0] .n ?_
 intro a w hs;refine zAC hs rfl (hs.rd0 hu).isSl underlying24 rfl ?_
 refine goL 1 [] [8,7,6,3,0] .n ?_
 intro a w hs;refine zCU (λmm_ a w=>∃ j:Nat,mm_=L.length-j∧St 25 [(0,u),(3,zI (zSo L j)),(6,u),(7,nI L.length),(8,nI j)] w0 [] [] a w∧j≤L.length) ⟨0,rfl,hs.sub (.c rfl (.c rfl (.c rfl (.c rfl (.c rfl .n))))),by omega⟩ ?_
 clear hs w a;rintro mm_ a w ⟨j,rfl,hs,hI1_0⟩
 revert a w hs
 refine go 1 [] [9,0,3,6,7,8] .n ?_
 refine ifG rfl (λc_1=>?_) (λc_1=>?_)
 ·
  refine go 0 [] [0,3,6,7,8] .n ?_
  intro a w hs;refine zBm (j:=j) hs rfl rfl (hs.rd0 hu) rfl (by omega) underlying24 sizeOf30 rfl ?_
  intro a w hs;refine zA9 (cs:=evV (L.getD j default)) hs rfl (hs.rd0 hu) (zAh zHR L j (by omega)) (by rw [zAX zHR];omega) (by omega) isAgg30 sizeOf30 rfl ?_
  refine goL 5 [50,0] [14,12,0,6,7,8] .n (λg2=>⟨rfl,(zJ rfl (zJ rfl (zJ (hL _ (zGR (by omega))).rd.isSl.one zAe))),rfl,?_⟩)
  intro a w hs;refine zAC hs rfl (hs.rd0 (hL _ (zGR (by omega))).rd).isSl underlying28 rfl ?_
  intro a w hs;refine zDe hs rfl rfl rfl ?_
  refine goL 3 [] [8,3,0,6,7] .n ⟨(by omega),?_⟩
  refine cl (·.drop (.c .z .n)) ?_
  intro a w hs;refine ⟨_,?_,(j+1),rfl,hs.sub (.c rfl (.c rfl (.c rfl (.c rfl (.c rfl .n))))),by omega⟩
  omega
 have hjl:j=L.length:=by omega
 intro a w hs;rw [show zSo L j=zSo L L.length by rw [hjl]] at hs
 have hgr:=zXy L L.length
 revert a w hs
 refine go 1 [] [18,3] .n ?_
 intro a w hs;refine zAC hs rfl (hs.rd0 hu).isSl underlying24 rfl ?_
 refine goL 2 [] [21,3] .n ?_
 intro a w hs;refine zY (b:=decide (60<((L.length:Nat):Int))) (λc_3=>?_) (λc_3=>?_)
 ·
  rw [c_3] at hs
  replace c_3:=of_decide_eq_true c_3
  revert a w hs
  refine goF 3 3 [] [24] .n ?_
  refine go 2 [] [2] .n ?_
  intro a w hs;exact fin hs rfl rfl ⟨rfl,rfl⟩
 rw [c_3] at hs
 replace c_3:=of_decide_eq_false c_3
 revert a w hs
 refine goF 3 3 [] [24] .n ?_
 have hb_:(decide (12000<(zSo L L.length)))=true:=by first | (rw [Bool.or_eq_true,decide_eq_true_eq,decide_eq_true_eq];omega) | (simp;omega)
 intro a w hs;rw [hb_] at hs;clear hb_
 revert a w hs
 refine go 2 [] [2] .n ?_
 intro a w hs;exact fin hs rfl rfl ⟨rfl,rfl⟩
theorem zcc (u:Value) (L:List EvR) (w0:World) (hu:Rd w0 [] u 3 L.length (L.flatMap evV)) (hL:∀ x∈L,x.ok w0) (hg:¬ Grt L):Calls Tryz.prog 21 #[u] w0 (zAf w0 (.int .i64 0)):=by
 have hue:=hu.le
 simp only [maxLen] at hue
 unfold Grt at hg
 refine zG (F0:=[(0,u)]) func21 rfl rfl rfl (.c .n) (Mem.nil _) ?_
 refine go 3 [] [6,3,0] .n ?_
 intro a w hs;refine zAC hs rfl (hs.rd0 hu).isSl underlying24 rfl ?_
 refine goL 1 [] [8,7,6,3,0] .n ?_
 intro a w hs;refine zCU (λmm_ a w=>∃ j:Nat,mm_=L.length-j∧St 25 [(0,u),(3,zI (zSo L j)),(6,u),(7,nI L.length),(8,nI j)] w0 [] [] a w∧j≤L.length) ⟨0,rfl,hs.sub (.c rfl (.c rfl (.c rfl (.c rfl (.c rfl .n))))),by omega⟩ ?_
 clear hs w a;rintro mm_ a w ⟨j,rfl,hs,hI1_0⟩
 revert a w hs
 refine go 1 [] [9,0,3,6,7,8] .n ?_
 refine ifG rfl (λc_1=>?_) (λc_1=>?_)
 ·
  refine go 0 [] [0,3,6,7,8] .n ?_
  intro a w hs;refine zBm (j:=j) hs rfl rfl (hs.rd0 hu) rfl (by omega) underlying24 sizeOf30 rfl ?_
  intro a w hs;refine zA9 (cs:=evV (L.getD j default)) hs rfl (hs.rd0 hu) (zAh zHR L j (by omega)) (by rw [zAX zHR];omega) (by omega) isAgg30 sizeOf30 rfl ?_
  refine goL 5 [50,0] [14,12,0,6,7,8] .n (λg2=>⟨rfl,(zJ rfl (zJ rfl (zJ (hL _ (zGR (by omega))).rd.isSl.one zAe))),rfl,?_⟩)
  intro a w hs;refine zAC hs rfl (hs.rd0 (hL _ (zGR (by omega))).rd).isSl underlying28 rfl ?_
  intro a w hs;refine zDe hs rfl rfl rfl ?_
  refine goL 3 [] [8,3,0,6,7] .n ⟨(by omega),?_⟩
  refine cl (·.drop (.c .z .n)) ?_
  intro a w hs;refine ⟨_,?_,(j+1),rfl,hs.sub (.c rfl (.c rfl (.c rfl (.c rfl (.c rfl .n))))),by omega⟩
  omega
 have hjl:j=L.length:=by omega
 intro a w hs;rw [show zSo L j=zSo L L.length by rw [hjl]] at hs
 have hgr:=zXy L L.length
 revert a w hs
 refine go 1 [] [18,3] .n ?_
 intro a w hs;refine zAC hs rfl (hs.rd0 hu).isSl underlying24 rfl ?_
 refine goL 1 [] [20,3] .n ?_
 have hb_:(decide (60<((L.length:Nat):Int)))=false:=decide_eq_false (by omega)
 intro a w hs;rw [hb_] at hs;clear hb_
 revert a w hs
 refine go 3 [] [23,21] .n ?_
 have hb_:(decide (12000<(zSo L L.length)))=false:=decide_eq_false (by omega)
 intro a w hs;rw [hb_] at hs;clear hb_
 revert a w hs
 refine go 3 [] [2] .n ?_
 intro a w hs;exact fin hs rfl rfl ⟨rfl,rfl⟩
theorem zaE (c:zAG) (u:Value) (L:List EvR) (w0:World) (hu:Rd w0 [] u 3 L.length (L.flatMap evV)) (hL:∀ x∈L,x.ok w0) (hg:Grt L):Calls Tryz.prog 6 #[.agg #[zI c.ring,zI c.window,zI c.base,zI c.gain,zI c.least,zI c.most,zI c.slack,zI c.num,zI c.den,zI c.extra,.bool (c.curve)],u] w0 (zAf w0 (.pointer none)):=by
 refine zG (F0:=[(0,.agg #[zI c.ring,zI c.window,zI c.base,zI c.gain,zI c.least,zI c.most,zI c.slack,zI c.num,zI c.den,zI c.extra,.bool (c.curve)]),(1,u)]) func6 rfl rfl rfl (.c (.c .n)) (Mem.nil _) ?_
 refine go 3 [0] [7,2] .n (λg1=>?_)
 intro a w hs;refine zB (v:=zI 1) hs (.c rfl .n) call21 (zdf _ L _ (hs.rd0 hu) (λx hx=>⟨(hL x hx).k,(hL x hx).at_,hs.rd0 (hL x hx).rd⟩) hg) rfl ?_
 refine goL 3 [] [4] .n ?_
 refine cl (·.drop (.c .z .n)) ?_
 intro a w hs;exact fin hs rfl rfl ⟨rfl,rfl⟩
theorem zao (c:zAG) (u:Value) (L:List EvR) (w0:World) (hu:Rd w0 [] u 3 L.length (L.flatMap evV)) (hL:∀ x∈L,x.ok w0) (hg:¬ Grt L) (hk:zCm c≠0):Calls Tryz.prog 6 #[.agg #[zI c.ring,zI c.window,zI c.base,zI c.gain,zI c.least,zI c.most,zI c.slack,zI c.num,zI c.den,zI c.extra,.bool (c.curve)],u] w0 (zAf w0 (.pointer none)):=by
 refine zG (F0:=[(0,.agg #[zI c.ring,zI c.window,zI c.base,zI c.gain,zI c.least,zI c.most,zI c.slack,zI c.num,zI c.den,zI c.extra,.bool (c.curve)]),(1,u)]) func6 rfl rfl rfl (.c (.c .n)) (Mem.nil _) ?_
 refine go 3 [0] [7,2] .n (λg1=>?_)
 intro a w hs;refine zB (v:=zI 0) hs (.c rfl .n) call21 (zcc _ L _ (hs.rd0 hu) (λx hx=>⟨(hL x hx).k,(hL x hx).at_,hs.rd0 (hL x hx).rd⟩) hg) rfl ?_
 refine goL 3 [0] [11] (.c .z .n) ⟨rfl,?_⟩
 intro a w hs;refine zB (v:=.tuple #[.pointer (none),nI (zCm c)]) hs (.c rfl .n) call22 (zWH c hk _) rfl ?_
 refine zQN 12 7 [] [16,5] .n ?_
 have hb_:(!((((zCm c:Nat):Int):Int)==0))=true:=by simpa using hk
 intro a w hs;rw [hb_] at hs;clear hb_
 revert a w hs
 refine go 2 [] [4] .n ?_
 refine cl (·.drop (.c .z .n)) ?_
 intro a w hs;exact fin hs rfl rfl ⟨rfl,rfl⟩
theorem zOM (c:zAG) (u:Value) (L:List EvR) (w0:World) (hu:Rd w0 [] u 3 L.length (L.flatMap evV)) (hL:∀ x∈L,x.ok w0) (h:Grt L∨zCm c≠0):Calls Tryz.prog 6 #[.agg #[zI c.ring,zI c.window,zI c.base,zI c.gain,zI c.least,zI c.most,zI c.slack,zI c.num,zI c.den,zI c.extra,.bool (c.curve)],u] w0 (zAf w0 (.pointer none)):=by
 by_cases hg:Grt L
 · exact zaE c u L w0 hu hL hg
 · exact zao c u L w0 hu hL hg (h.resolve_left hg)
theorem zOZ (c:zAG) (u:Value) (L:List EvR) (w0:World) (hu:Rd w0 [] u 3 L.length (L.flatMap evV)) (hL:∀ x∈L,x.ok w0) (hg:¬ Grt L) (hk:zCm c=0):Calls Tryz.prog 6 #[.agg #[zI c.ring,zI c.window,zI c.base,zI c.gain,zI c.least,zI c.most,zI c.slack,zI c.num,zI c.den,zI c.extra,.bool (c.curve)],u] w0 (Ret w0 [] λz N=>∃ g Y,z=pt g 0∧N=[Y]∧Cli g c (C0 c) Y):=by
 refine zG (F0:=[(0,.agg #[zI c.ring,zI c.window,zI c.base,zI c.gain,zI c.least,zI c.most,zI c.slack,zI c.num,zI c.den,zI c.extra,.bool (c.curve)]),(1,u)]) func6 rfl rfl rfl (.c (.c .n)) (Mem.nil _) ?_
 refine go 3 [0] [7,2] .n (λg1=>?_)
 intro a w hs;refine zB (v:=zI 0) hs (.c rfl .n) call21 (zcc _ L _ (hs.rd0 hu) (λx hx=>⟨(hL x hx).k,(hL x hx).at_,hs.rd0 (hL x hx).rd⟩) hg) rfl ?_
 refine goL 3 [0] [11] (.c .z .n) ⟨rfl,?_⟩
 intro a w hs;refine zK hs (.c rfl .n) call22 .n (zTV c hk _) rfl ?_;clear hs w a;rintro _ _ a w ⟨g2,Y3,rfl,rfl,hY4⟩ hs
 revert a w hs
 refine goL 10 [] [4] .n ?_
 refine cl (·.drop (.c (.s .z) .n)) ?_
 intro a w hs;exact fin hs rfl rfl ⟨_,_,rfl,rfl,hY4⟩
end Go.Proofs.YtajjkegcfmhghaaGreat
