import Derived.Test.YtemnjodhidlfpaaGreatQG9
import Derived.Test.YtemnjodhidlfpaaGreatQG24
import Derived.Test.YtemnjodhidlfpaaGreatQG8
import Derived.Test.YtemnjodhidlfpaaGreatQG22
import Derived.Test.YtemnjodhidlfpaaGreatQSxBasB
/- Walks of ClientRefuses: what each function does, over the program of this seat. Printed by a program of this session. -/
namespace Go.Proofs.YtemnjodhidlfpaaGreat
open Tryz
open Go Go.Sx Go.RowKit
set_option linter.unusedVariables false
set_option linter.unusedSimpArgs false
set_option maxRecDepth 4000
set_option maxHeartbeats 1000000

theorem zGx (c:zAF) (u:Value) (L:List EvR) (vb:Value) (mb:Nat) (bb:List zP) (w0:World) (hu:Rd w0 [] u 3 L.length (L.flatMap evV)) (hL:∀ x ∈ L,x.ok w0) (hbb:Rd w0 [] vb 1 mb (zD bb)) (hk:zCj c ≠ 0):Calls Tryz.prog 5 #[.agg #[zI c.ring,zI c.window,zI c.base,zI c.gain,zI c.least,zI c.most,zI c.slack,zI c.num,zI c.den,zI c.extra,.bool (c.curve)],u,vb] w0 (zAf w0 (.bool true)):=by
 have hue:=hu.le;have hbe:=hbb.le
 simp only [maxLen] at hue hbe
 refine zF (F0:=[(0,.agg #[zI c.ring,zI c.window,zI c.base,zI c.gain,zI c.least,zI c.most,zI c.slack,zI c.num,zI c.den,zI c.extra,.bool (c.curve)]),(1,u),(2,vb)]) func5 rfl rfl rfl (.c (.c (.c .n))) (Mem.nil _) ?_
 refine go 3 [0,0] [26,3,1,2] .n (fun g1=>⟨rfl,?_⟩)
 intro a w hs;refine zB (v:=.tuple #[.pointer (none),nI (zCj c)]) hs (.c rfl .n) call8 (zNa c hk _) rfl ?_
 refine goL 6 [0] [31,8,7,1,2] (.c .z .n) ⟨rfl,?_⟩
 intro a w hs;refine zB (v:=.tuple #[.pointer (none),nI (zCj c)]) hs (.c rfl .n) call8 (zNa c hk _) rfl ?_
 refine goL 7 [] [36,10,9,7,1,2] .n ?_
 have hb_:(!((((zCj c:Nat):Int):Int) == 0)) = true:=by simpa using hk
 intro a w hs;rw [hb_] at hs;clear hb_
 revert a w hs
 refine go 4 [] [40,9,7,1,2] .n ?_
 refine go 4 [] [44,9,7,1,2] .n ?_
 refine go 4 [] [48,9,7,1,2] .n ?_
 refine go 5 [] [53,9,7,1,2] .n ?_
 refine goF 5 5 [] [58,9,7,1,2] .n ?_
 refine go 1 [] [] .n ?_
 intro a w hs;refine zB (v:=.bool (true)) hs .n call10 (zE1 _) rfl ?_
 refine goL 1 [] [6] .n ?_
 refine cl (·.drop (.c .z .n)) ?_
 intro a w hs;exact fin hs rfl rfl ⟨rfl,rfl⟩
theorem zGJ (c:zAF) (u:Value) (L:List EvR) (vb:Value) (mb:Nat) (bb:List zP) (w0:World) (hu:Rd w0 [] u 3 L.length (L.flatMap evV)) (hL:∀ x ∈ L,x.ok w0) (hbb:Rd w0 [] vb 1 mb (zD bb)) (hk:zCj c = 0):Calls Tryz.prog 5 #[.agg #[zI c.ring,zI c.window,zI c.base,zI c.gain,zI c.least,zI c.most,zI c.slack,zI c.num,zI c.den,zI c.extra,.bool (c.curve)],u,vb] w0 (zAf w0 (.bool true)):=by
 have hue:=hu.le;have hbe:=hbb.le
 simp only [maxLen] at hue hbe
 refine zF (F0:=[(0,.agg #[zI c.ring,zI c.window,zI c.base,zI c.gain,zI c.least,zI c.most,zI c.slack,zI c.num,zI c.den,zI c.extra,.bool (c.curve)]),(1,u),(2,vb)]) func5 rfl rfl rfl (.c (.c (.c .n))) (Mem.nil _) ?_
 refine go 3 [0,0] [26,3,1,2] .n (fun g1=>⟨rfl,?_⟩)
 intro a w hs;refine zG hs (.c rfl .n) call8 .n (zMy c hk _) rfl ?_;clear hs w a;rintro _ _ a w ⟨g2,Y3,rfl,rfl,hY4⟩ hs
 revert a w hs
 refine goL 6 [0] [31,8,7,1,2] (.c (.s .z) .n) ⟨rfl,?_⟩
 intro a w hs;refine zG hs (.c rfl .n) call8 .n (zMy c hk _) rfl ?_;clear hs w a;rintro _ _ a w ⟨g5,Y6,rfl,rfl,hY7⟩ hs
 revert a w hs
 refine goL 21 [] [50,49,9,7,1,2] .n ?_
 intro a w hs;refine zC hs rfl rfl rfl ?_
 refine zG hs (.c rfl .n) call9 .n (zOu _ L _ (hs.rd0 hu) (fun x hx=>⟨(hL x hx).k,(hL x hx).at_,hs.rd0 (hL x hx).rd⟩)) rfl ?_;clear hs w a;rintro _ _ a w ⟨gz8,rfl,hg9,rfl⟩ hs
 revert a w hs
 refine goL 3 [] [54,9,7,1,2] .n ?_
 intro a w hs;refine zT (b:=decide (0 < gz8)) (fun c_10=>?_) (fun c_10=>?_)
 ·
  rw [c_10] at hs
  replace c_10:=of_decide_eq_true c_10
  revert a w hs
  refine go 5 [] [] .n ?_
  intro a w hs;refine zB (v:=.bool (true)) hs .n call10 (zE1 _) rfl ?_
  refine goL 1 [] [6] .n ?_
  refine cl (·.drop (.c (.s (.s .z)) (.c (.s .z) (.c .z .n)))) ?_
  intro a w hs;exact fin hs rfl rfl ⟨rfl,rfl⟩
 rw [c_10] at hs
 replace c_10:=of_decide_eq_false c_10
 revert a w hs
 refine go 1 [] [55,54,9,7,1,2] .n ?_
 intro a w hs;refine zC hs rfl rfl rfl ?_
 refine zW hs rfl (hs.rd0 hbb).isSl underlying31 rfl ?_
 refine goL 2 [] [58,9,7,1,2] .n ?_
 refine ifG rfl (fun c_11=>?_) (fun c_11=>?_)
 ·
  refine go 0 [] [] .n ?_
  intro a w hs;refine zB (v:=.bool (true)) hs .n call10 (zE1 _) rfl ?_
  refine goL 1 [] [6] .n ?_
  refine cl (·.drop (.c (.s (.s .z)) (.c (.s .z) (.c .z .n)))) ?_
  intro a w hs;exact fin hs rfl rfl ⟨rfl,rfl⟩
 refine go 1 [] [60,9,7,2] .n ?_
 intro a w hs;refine zW hs rfl (hs.rd0 hu).isSl underlying24 rfl ?_
 have hL60:=hg9 (by assumption)
 refine goL 1 [] [62,61,60,9,7,2] .n ?_
 refine cl (·.drop (.c (.s .z) .n)) ?_
 refine cl (·.reorder (.c (.s .z) (.c .z .n))) ?_
 intro a w hs;refine zCr (fun mm_ a w=>∃ j:Nat,∃ Y:HA,∃ C:CS,∃ Y2:HA,∃ D:CS,mm_ = L.length - j ∧ St 167 [(2,vb),(7,pt g2 0),(9,pt g5 0),(60,u),(61,nI L.length),(62,nI j)] w0 [] [Y,Y2] a w ∧ j ≤ L.length ∧ Cli g2 c C Y ∧ Cli g5 c D Y2 ∧ C.ok c ∧ D.ok c ∧ (∀ i,C.σ.n i ≤ j) ∧ (∀ i,D.σ.n i ≤ 3 * j) ∧ C.fr ≤ j ∧ zIV C D) ⟨0,Y3,(C0 c),Y6,(C0 c),rfl,hs.sub (.c rfl (.c rfl (.c rfl (.c rfl (.c rfl (.c rfl .n)))))),by omega,hY4,hY7,(zYE hk),(zYE hk),(fun i=>Nat.le_refl 0),(fun i=>Nat.le_refl 0),(Nat.le_refl 0),(zIV.refl _)⟩ ?_
 clear hs w a;rintro mm_ a w ⟨j,Y,C,Y2,D,rfl,hs,hI1_0,hI1_1,hI1_2,hI1_3,hI1_4,hI1_5,hI1_6,hI1_7,hI1_8⟩
 revert a w hs
 refine go 1 [] [63,2,7,9,60,61,62] .n ?_
 refine ifG rfl (fun c_12=>?_) (fun c_12=>?_)
 ·
  refine go 0 [] [2,7,9,60,61,62] .n ?_
  intro a w hs;refine zBt (j:=j) hs rfl rfl (hs.rd0 hu) rfl (by omega) underlying24 sizeOf33 rfl ?_
  intro a w hs;refine zBQ (cs:=evV (L.getD j default)) hs rfl (hs.rd0 hu) (zAh zKC L j (by omega)) (by rw [zAX zKC];omega) (by omega) isAgg33 sizeOf33 rfl ?_
  have hxo:=hL _ (zG6 (l:=L) (i:=j) (by omega));have hxk:=hxo.k;have hxa:=hxo.at_
  refine goL 3 [50] [66,12,2,7,9,60,61,62] .n (fun g13=>⟨rfl,(zJ rfl (zJ rfl (zJ (hL _ (zG6 (by omega))).rd.isSl.one zAa))),?_⟩)
  intro a w hs;refine zW hs rfl (hs.rd0 hbb).isSl underlying31 rfl ?_
  refine goL 1 [] [68,12,2,7,9,60,61,62] .n ?_
  refine ifG rfl (fun c_14=>?_) (fun c_14=>?_)
  ·
   refine go 1 [] [70,12,2,7,9,60,61,62] .n ?_
   intro a w hs;refine zG hs (.c rfl .n) call18 .n (zNr _ _ bb _ (hs.rd0 hbb)) rfl ?_;clear hs w a;rintro _ _ a w ⟨v15,rfl,rfl⟩ hs
   have hk16:=zGP bb
   revert a w hs
   refine goL 4 [] [13,73,72,12,2,7,9,60,61,62] .n (fun g17=>?_)
   intro a w hs;refine zAU hs rfl rfl .z (.z (.c (.c (.c (.c .n))))) (zJ rfl (zJ rfl (zJ rfl (zJ (zK (hs.mem.del (.s .z))).isSl.one zAa)))) sizeOf60 rfl ?_
   refine goL 4 [] [76,12,2,7,9,60,61,62] .n ?_
   intro a w hs;refine zT (b:=!(((((zA bb).e:Nat):Int):Int) == 0)) (fun c_18=>?_) (fun c_18=>?_)
   ·
    rw [c_18] at hs
    replace c_18:=zFg c_18
    replace c_18:=zAD c_18
    revert a w hs
    refine go 4 [0] [80,79,77,76,12,2,7,9,60,61,62] (.c (.s (.s .z)) .n) ⟨rfl,?_⟩
    intro a w hs;refine zC hs rfl rfl rfl ?_
    refine zG hs (.c rfl (.c rfl (.c rfl .n))) call15 (.c (.s (.s (.s (.s .z)))) .n) (zFd hI1_2 hk hI1_4 (fun i=>Nat.le_trans (hI1_6 i) (by omega)) (Nat.le_trans (Nat.le_trans (Nat.le_of_eq hI1_8.fr) hI1_7) (by omega)) ((L.getD j default).at_) ⟨by omega,by omega⟩ _ (hs.mem.del (.s (.s (.s (.s .z))))) (hs.mem.rd1 hbb (.c (.s (.s (.s (.s .z)))) .n))) rfl ?_;clear hs w a;rintro _ _ a w ⟨rfl,Y19,rfl,hY20⟩ hs
    have hrf21:=(hI1_8).no (c:=c) (x:=(L.getD j default).at_) (zVh (by assumption:(((zA bb).e:Nat):Int) ≠ 0))
    revert a w hs
    refine goL 1 [] [82,76,12,2,7,9,60,61,62] .n ?_
    have hb_:((((zBz c D (zA bb):Nat):Int):Int) == 0) = false:=zaw (zVh (by assumption))
    intro a w hs;rw [hb_] at hs;clear hb_
    revert a w hs
    refine go 4 [0] [86,85,12,2,7,9,60,61,62] (.c (.s .z) .n) ⟨rfl,?_⟩
    intro a w hs;refine zG hs (.c rfl (.c rfl .n)) call11 (.c (.s (.s (.s (.s .z)))) .n) (zJX hI1_1 hk hI1_3 (fun i=>Nat.le_trans (hI1_5 i) (by omega)) (Nat.le_trans hI1_7 (by omega)) (L.getD j default) ⟨by omega,by omega⟩ _ (hs.mem.del (.s (.s (.s (.s .z))))) (hs.mem.rd1 (hL _ (zG6 (by omega))).rd (.c (.s (.s (.s (.s .z)))) .n)) ⟨by omega,by omega⟩) rfl ?_;clear hs w a;rintro _ _ a w ⟨v24,rfl,Y22,rfl,hY23⟩ hs
    revert a w hs
    refine goL 4 [] [15,89,88,12,2,7,9,60,61,62] .n (fun g25=>?_)
    intro a w hs;refine zAU hs rfl rfl .z (.z (.c (.c (.c .n)))) (zJ rfl (zJ rfl (zJ (zK (hs.mem.del (.s .z))).isSl.one zAa))) sizeOf36 rfl ?_
    refine goL 2 [] [91,16,15,12,2,7,9,60,61,62] .n ?_
    have hokd_:=Cli.oks hY20
    refine go 1 [0] [92,91,16,15,12,2,7,9,60,61,62] (.c (.s (.s (.s .z))) .n) ⟨rfl,?_⟩
    intro a w hs;refine zG hs (.c rfl (.c rfl .n)) call11 (.c (.s (.s (.s (.s .z)))) .n) (zJX hY20 hk (zDS hk hI1_4) (fun i=>Nat.le_trans (Nat.le_trans (zET _ _ _ _ i) (Nat.succ_le_succ (hI1_6 i))) (by omega)) (Nat.le_trans (Nat.le_trans (Nat.le_of_eq hI1_8.fr) hI1_7) (by omega)) (L.getD j default) ⟨by omega,by omega⟩ _ (hs.mem.del (.s (.s (.s (.s .z))))) (hs.mem.rd1 (hL _ (zG6 (by omega))).rd (.c (.s (.s (.s (.s .z)))) .n)) ⟨by omega,by omega⟩) rfl ?_;clear hs w a;rintro _ _ a w ⟨v28,rfl,Y26,rfl,hY27⟩ hs
    have hrf29:=(hrf21).do_ c (L.getD j default)
    rw [(hrf21).doS c (L.getD j default),(hrf21).doE c (L.getD j default)] at hs
    revert a w hs
    refine goL 4 [] [17,95,94,16,15,12,2,7,9,60,61,62] .n (fun g30=>?_)
    intro a w hs;refine zAU hs rfl rfl .z (.z (.c (.c (.c .n)))) (zJ rfl (zJ rfl (zJ (zK (hs.mem.del (.s .z))).isSl.one zAa))) sizeOf36 rfl ?_
    refine goL 4 [] [98,18,17,16,15,12,2,7,9,60,61,62] .n ?_
    intro a w hs;refine zT (b:=(((zFS c C (L.getD j default):Nat):Int):Int) == 0) (fun c_31=>?_) (fun c_31=>?_)
    ·
     rw [c_31] at hs
     replace c_31:=eq_of_beq c_31
     revert a w hs
     refine go 5 [0] [103,18,17,16,15,12,2,7,9,60,61,62] (.c (.s (.s (.s .z))) .n) ⟨rfl,?_⟩
     intro a w hs;refine zT (b:=((L.getD j default).k:Int) == 0) (fun c_32=>?_) (fun c_32=>?_)
     ·
      rw [c_32] at hs
      replace c_32:=eq_of_beq c_32
      revert a w hs
      refine go 3 [0] [106,104,103,18,17,16,15,12,2,7,9,60,61,62] (.c .z .n) ⟨rfl,?_⟩
      intro a w hs;refine zC hs rfl rfl rfl ?_
      refine zDi hs rfl rfl rfl ?_
      refine goL 2 [0] [109,107,104,103,18,17,16,15,2,7,9,60,61,62] (.c .z .n) ⟨rfl,?_⟩
      intro a w hs;refine zC hs rfl rfl rfl ?_
      refine zG hs (.c rfl (.c rfl (.c rfl .n))) call15 (.c (.s (.s (.s .z))) .n) (zFd hY27 hk (zB4 hk ⟨by omega,by omega⟩ (zDS hk hI1_4)) (fun i=>Nat.le_trans (Nat.le_trans (zDn _ _ _ i) (Nat.succ_le_succ (Nat.le_trans (zET _ _ _ _ i) (Nat.succ_le_succ (hI1_6 i))))) (by omega)) (Nat.le_trans (Nat.le_trans (zB7 _ _ _) (Nat.succ_le_succ (Nat.le_trans (Nat.le_of_eq hI1_8.fr) hI1_7))) (by omega)) (IntKind.i64.wrap (((L.getD j default).at_) + 1)) (zC7 _) _ (hs.mem.del (.s (.s (.s .z)))) (hs.mem.rd1 (hL _ (zG6 (by omega))).rd (.c (.s (.s (.s .z))) .n))) rfl ?_;clear hs w a;rintro _ _ a w ⟨rfl,Y33,rfl,hY34⟩ hs
      have hdu35:=zQt (e:=(L.getD j default)) (hrf21) hokd_ (by assumption) (by assumption)
      have hrf36:=(hrf29).no (x:=IntKind.i64.wrap ((L.getD j default).at_ + 1)) hdu35
      revert a w hs
      refine goL 1 [] [111,103,18,17,16,15,2,7,9,60,61,62] .n ?_
      have hb_:((((zBz c (cDo c (zBC c D ((L.getD j default).at_) (zA bb)) (L.getD j default)) (zA ((L.getD j default).bs)):Nat):Int):Int) == 0) = false:=zaw hdu35
      intro a w hs;rw [hb_] at hs;clear hb_
      revert a w hs
      refine go 3 [] [114,18,17,16,15,2,7,9,60,61,62] .n ?_
      intro a w hs;refine zB (v:=.tuple #[zI ((cDo c C (L.getD j default)).K.off),zI ((cDo c C (L.getD j default)).K.j),zI ((cDo c C (L.getD j default)).K.now)]) hs (.c rfl .n) call19 (zAl hY23  _ (hs.mem.del (.s (.s (.s (.s (.s (.s .z)))))))) rfl ?_
      refine goL 8 [] [120,21,20,19,18,17,16,15,2,7,9,60,61,62] .n ?_
      intro a w hs;refine zB (v:=.tuple #[zI ((zBC c (cDo c (zBC c D ((L.getD j default).at_) (zA bb)) (L.getD j default)) (IntKind.i64.wrap (((L.getD j default).at_) + 1)) (zA ((L.getD j default).bs))).K.off),zI ((zBC c (cDo c (zBC c D ((L.getD j default).at_) (zA bb)) (L.getD j default)) (IntKind.i64.wrap (((L.getD j default).at_) + 1)) (zA ((L.getD j default).bs))).K.j),zI ((zBC c (cDo c (zBC c D ((L.getD j default).at_) (zA bb)) (L.getD j default)) (IntKind.i64.wrap (((L.getD j default).at_) + 1)) (zA ((L.getD j default).bs))).K.now)]) hs (.c rfl .n) call19 (zAl hY34  _ (hs.mem.del .z)) rfl ?_
      refine goL 9 [0,1] [126,125,24,23,22,21,20,19,18,16,2,7,9,60,61,62] (.c (.s (.s (.s (.s .z)))) (.c (.s (.s .z)) .n)) ⟨rfl,rfl,?_⟩
      intro a w hs;refine zB (v:=.bool true) hs (.c rfl (.c rfl .n)) call20 (zCN (zIx c C (L.getD j default)) _ _ _ (zK (hs.mem.del (.s (.s (.s (.s (.s .z))))))) (zK (hs.mem.del (.s (.s (.s (.s .z))))))) rfl ?_
      refine goL 5 [] [132,129,24,23,22,21,20,19,2,7,9,60,61,62] .n ?_
      have hb_:(!((((zFS c C (L.getD j default):Nat):Int):Int) == ((zFS c C (L.getD j default):Nat):Int))) = false:=zGe rfl
      intro a w hs;rw [hb_] at hs;clear hb_
      revert a w hs
      refine go 5 [] [137,134,24,23,21,20,2,7,9,60,61,62] .n ?_
      have hb_:(!(((cDo c C (L.getD j default)).K.off:Int) == ((zBC c (cDo c (zBC c D ((L.getD j default).at_) (zA bb)) (L.getD j default)) (IntKind.i64.wrap (((L.getD j default).at_) + 1)) (zA ((L.getD j default).bs))).K.off))) = false:=zGr (congrArg (fun K:KS=>K.off) hrf36.K)
      intro a w hs;rw [hb_] at hs;clear hb_
      revert a w hs
      refine go 5 [] [142,139,24,21,2,7,9,60,61,62] .n ?_
      have hb_:(!(((cDo c C (L.getD j default)).K.j:Int) == ((zBC c (cDo c (zBC c D ((L.getD j default).at_) (zA bb)) (L.getD j default)) (IntKind.i64.wrap (((L.getD j default).at_) + 1)) (zA ((L.getD j default).bs))).K.j))) = false:=zGr (congrArg (fun K:KS=>K.j) hrf36.K)
      intro a w hs;rw [hb_] at hs;clear hb_
      revert a w hs
      refine go 5 [] [147,144,2,7,9,60,61,62] .n ?_
      have hb_:(!(((cDo c C (L.getD j default)).K.now:Int) == ((zBC c (cDo c (zBC c D ((L.getD j default).at_) (zA bb)) (L.getD j default)) (IntKind.i64.wrap (((L.getD j default).at_) + 1)) (zA ((L.getD j default).bs))).K.now))) = false:=zGr (congrArg (fun K:KS=>K.now) hrf36.K)
      intro a w hs;rw [hb_] at hs;clear hb_
      revert a w hs
      refine go 3 [] [150,149,2,7,9,60,61,62] .n ?_
      intro a w hs;refine zC hs rfl rfl rfl ?_
      refine zB (v:=nI ((cDo c C (L.getD j default)).σ.n 0)) hs (.c rfl .n) call17 (zAk hY23  _ (hs.mem.del (.s (.s (.s (.s (.s (.s .z)))))))) rfl ?_
      refine goL 1 [] [152,151,149,2,7,9,60,61,62] .n ?_
      intro a w hs;refine zC hs rfl rfl rfl ?_
      refine zB (v:=nI ((zBC c (cDo c (zBC c D ((L.getD j default).at_) (zA bb)) (L.getD j default)) (IntKind.i64.wrap (((L.getD j default).at_) + 1)) (zA ((L.getD j default).bs))).σ.n 0)) hs (.c rfl .n) call17 (zAk hY34  _ (hs.mem.del (.s (.s .z)))) rfl ?_
      refine goL 1 [] [154,149,2,7,9,60,61,62] .n ?_
      have hb_:(!(((((cDo c C (L.getD j default)).σ.n 0:Nat):Int):Int) == (((zBC c (cDo c (zBC c D ((L.getD j default).at_) (zA bb)) (L.getD j default)) (IntKind.i64.wrap (((L.getD j default).at_) + 1)) (zA ((L.getD j default).bs))).σ.n 0:Nat):Int))) = false:=zGe hrf36.n0
      intro a w hs;rw [hb_] at hs;clear hb_
      revert a w hs
      refine go 3 [] [157,156,2,7,9,60,61,62] .n ?_
      intro a w hs;refine zC hs rfl rfl rfl ?_
      refine zG hs (.c rfl .n) call12 .n (zA6 hY23 _ (hs.mem.del (.s (.s (.s (.s (.s (.s .z)))))))) rfl ?_;clear hs w a;rintro v37 _ a w rfl hs
      refine zC hs rfl rfl rfl ?_
      refine zW hs rfl (zK (hs.mem.del .z)).isSl underlying40 rfl ?_
      refine goL 1 [] [160,159,156,2,7,9,60,61,62] .n ?_
      intro a w hs;refine zC hs rfl rfl rfl ?_
      refine zG hs (.c rfl .n) call12 .n (zA6 hY34 _ (hs.mem.del (.s (.s (.s .z))))) rfl ?_;clear hs w a;rintro v38 _ a w rfl hs
      refine zC hs rfl rfl rfl ?_
      refine zW hs rfl (zK (hs.mem.del .z)).isSl underlying40 rfl ?_
      refine goL 1 [] [163,156,2,7,9,60,61,62] .n ?_
      have hb_:(!(((((cDo c C (L.getD j default)).σ.l.length:Nat):Int):Int) == (((zBC c (cDo c (zBC c D ((L.getD j default).at_) (zA bb)) (L.getD j default)) (IntKind.i64.wrap (((L.getD j default).at_) + 1)) (zA ((L.getD j default).bs))).σ.l.length:Nat):Int))) = false:=zGe (congrArg List.length hrf36.l).symm
      intro a w hs;rw [hb_] at hs;clear hb_
      revert a w hs
      refine go 4 [] [62,2,7,9,60,61] .n ⟨(by omega),?_⟩
      refine cl (·.drop (.c (.s (.s (.s (.s (.s (.s (.s (.s (.s (.s .z)))))))))) (.c (.s (.s (.s (.s (.s (.s (.s (.s (.s .z))))))))) (.c (.s (.s (.s (.s (.s (.s (.s .z))))))) (.c (.s (.s (.s (.s (.s (.s .z)))))) (.c (.s (.s (.s (.s (.s .z))))) (.c (.s (.s (.s .z))) (.c (.s (.s .z)) (.c (.s .z) (.c .z .n)))))))))) ?_
      refine cl (·.reorder (.c (.s .z) (.c .z .n))) ?_
      intro a w hs;refine ⟨_,?_,(j + 1),Y22,(cDo c C (L.getD j default)),Y33,(zBC c (cDo c (zBC c D ((L.getD j default).at_) (zA bb)) (L.getD j default)) (IntKind.i64.wrap (((L.getD j default).at_) + 1)) (zA ((L.getD j default).bs))),rfl,hs.sub (.c rfl (.c rfl (.c rfl (.c rfl (.c rfl (.c rfl .n)))))),by omega,hY23,hY34,(zB4 hk ⟨by omega,by omega⟩ hI1_3),(zDS hk (zB4 hk ⟨by omega,by omega⟩ (zDS hk hI1_4))),(fun i=>(Nat.le_trans (zDn _ _ _ i) (Nat.succ_le_succ (hI1_5 i)))),(fun i=>Nat.le_trans (Nat.le_trans (zET _ _ _ _ i) (Nat.succ_le_succ (Nat.le_trans (zDn _ _ _ i) (Nat.succ_le_succ (Nat.le_trans (zET _ _ _ _ i) (Nat.succ_le_succ (hI1_6 i))))))) (by omega)),(Nat.le_trans (zB7 _ _ _) (Nat.succ_le_succ hI1_7)),hrf36⟩
      omega
     rw [c_32] at hs
     replace c_32:=zAD c_32
     revert a w hs
     refine go 11 [] [114,18,17,16,15,2,7,9,60,61,62] .n ?_
     intro a w hs;refine zB (v:=.tuple #[zI ((cDo c C (L.getD j default)).K.off),zI ((cDo c C (L.getD j default)).K.j),zI ((cDo c C (L.getD j default)).K.now)]) hs (.c rfl .n) call19 (zAl hY23  _ (hs.mem.del (.s (.s (.s (.s (.s (.s .z)))))))) rfl ?_
     refine goL 8 [] [120,21,20,19,18,17,16,15,2,7,9,60,61,62] .n ?_
     intro a w hs;refine zB (v:=.tuple #[zI ((cDo c (zBC c D ((L.getD j default).at_) (zA bb)) (L.getD j default)).K.off),zI ((cDo c (zBC c D ((L.getD j default).at_) (zA bb)) (L.getD j default)).K.j),zI ((cDo c (zBC c D ((L.getD j default).at_) (zA bb)) (L.getD j default)).K.now)]) hs (.c rfl .n) call19 (zAl hY27  _ (hs.mem.del (.s (.s (.s .z))))) rfl ?_
     refine goL 9 [0,1] [126,125,24,23,22,21,20,19,18,16,2,7,9,60,61,62] (.c (.s (.s (.s (.s .z)))) (.c (.s .z) .n)) ⟨rfl,rfl,?_⟩
     intro a w hs;refine zB (v:=.bool true) hs (.c rfl (.c rfl .n)) call20 (zCN (zIx c C (L.getD j default)) _ _ _ (zK (hs.mem.del (.s (.s (.s (.s (.s .z))))))) (zK (hs.mem.del (.s (.s (.s .z)))))) rfl ?_
     refine goL 5 [] [132,129,24,23,22,21,20,19,2,7,9,60,61,62] .n ?_
     have hb_:(!((((zFS c C (L.getD j default):Nat):Int):Int) == ((zFS c C (L.getD j default):Nat):Int))) = false:=zGe rfl
     intro a w hs;rw [hb_] at hs;clear hb_
     revert a w hs
     refine go 5 [] [137,134,24,23,21,20,2,7,9,60,61,62] .n ?_
     have hb_:(!(((cDo c C (L.getD j default)).K.off:Int) == ((cDo c (zBC c D ((L.getD j default).at_) (zA bb)) (L.getD j default)).K.off))) = false:=zGr (congrArg (fun K:KS=>K.off) hrf29.K)
     intro a w hs;rw [hb_] at hs;clear hb_
     revert a w hs
     refine go 5 [] [142,139,24,21,2,7,9,60,61,62] .n ?_
     have hb_:(!(((cDo c C (L.getD j default)).K.j:Int) == ((cDo c (zBC c D ((L.getD j default).at_) (zA bb)) (L.getD j default)).K.j))) = false:=zGr (congrArg (fun K:KS=>K.j) hrf29.K)
     intro a w hs;rw [hb_] at hs;clear hb_
     revert a w hs
     refine go 5 [] [147,144,2,7,9,60,61,62] .n ?_
     have hb_:(!(((cDo c C (L.getD j default)).K.now:Int) == ((cDo c (zBC c D ((L.getD j default).at_) (zA bb)) (L.getD j default)).K.now))) = false:=zGr (congrArg (fun K:KS=>K.now) hrf29.K)
     intro a w hs;rw [hb_] at hs;clear hb_
     revert a w hs
     refine go 3 [] [150,149,2,7,9,60,61,62] .n ?_
     intro a w hs;refine zC hs rfl rfl rfl ?_
     refine zB (v:=nI ((cDo c C (L.getD j default)).σ.n 0)) hs (.c rfl .n) call17 (zAk hY23  _ (hs.mem.del (.s (.s (.s (.s (.s (.s .z)))))))) rfl ?_
     refine goL 1 [] [152,151,149,2,7,9,60,61,62] .n ?_
     intro a w hs;refine zC hs rfl rfl rfl ?_
     refine zB (v:=nI ((cDo c (zBC c D ((L.getD j default).at_) (zA bb)) (L.getD j default)).σ.n 0)) hs (.c rfl .n) call17 (zAk hY27  _ (hs.mem.del (.s (.s (.s (.s .z)))))) rfl ?_
     refine goL 1 [] [154,149,2,7,9,60,61,62] .n ?_
     have hb_:(!(((((cDo c C (L.getD j default)).σ.n 0:Nat):Int):Int) == (((cDo c (zBC c D ((L.getD j default).at_) (zA bb)) (L.getD j default)).σ.n 0:Nat):Int))) = false:=zGe hrf29.n0
     intro a w hs;rw [hb_] at hs;clear hb_
     revert a w hs
     refine go 3 [] [157,156,2,7,9,60,61,62] .n ?_
     intro a w hs;refine zC hs rfl rfl rfl ?_
     refine zG hs (.c rfl .n) call12 .n (zA6 hY23 _ (hs.mem.del (.s (.s (.s (.s (.s (.s .z)))))))) rfl ?_;clear hs w a;rintro v39 _ a w rfl hs
     refine zC hs rfl rfl rfl ?_
     refine zW hs rfl (zK (hs.mem.del .z)).isSl underlying40 rfl ?_
     refine goL 1 [] [160,159,156,2,7,9,60,61,62] .n ?_
     intro a w hs;refine zC hs rfl rfl rfl ?_
     refine zG hs (.c rfl .n) call12 .n (zA6 hY27 _ (hs.mem.del (.s (.s (.s (.s (.s .z))))))) rfl ?_;clear hs w a;rintro v40 _ a w rfl hs
     refine zC hs rfl rfl rfl ?_
     refine zW hs rfl (zK (hs.mem.del .z)).isSl underlying40 rfl ?_
     refine goL 1 [] [163,156,2,7,9,60,61,62] .n ?_
     have hb_:(!(((((cDo c C (L.getD j default)).σ.l.length:Nat):Int):Int) == (((cDo c (zBC c D ((L.getD j default).at_) (zA bb)) (L.getD j default)).σ.l.length:Nat):Int))) = false:=zGe (congrArg List.length hrf29.l).symm
     intro a w hs;rw [hb_] at hs;clear hb_
     revert a w hs
     refine go 4 [] [62,2,7,9,60,61] .n ⟨(by omega),?_⟩
     refine cl (·.drop (.c (.s (.s (.s (.s (.s (.s (.s (.s (.s (.s .z)))))))))) (.c (.s (.s (.s (.s (.s (.s (.s (.s (.s .z))))))))) (.c (.s (.s (.s (.s (.s (.s (.s .z))))))) (.c (.s (.s (.s (.s (.s .z))))) (.c (.s (.s (.s (.s .z)))) (.c (.s (.s (.s .z))) (.c (.s (.s .z)) (.c (.s .z) (.c .z .n)))))))))) ?_
     refine cl (·.reorder (.c (.s .z) (.c .z .n))) ?_
     intro a w hs;refine ⟨_,?_,(j + 1),Y22,(cDo c C (L.getD j default)),Y26,(cDo c (zBC c D ((L.getD j default).at_) (zA bb)) (L.getD j default)),rfl,hs.sub (.c rfl (.c rfl (.c rfl (.c rfl (.c rfl (.c rfl .n)))))),by omega,hY23,hY27,(zB4 hk ⟨by omega,by omega⟩ hI1_3),(zB4 hk ⟨by omega,by omega⟩ (zDS hk hI1_4)),(fun i=>(Nat.le_trans (zDn _ _ _ i) (Nat.succ_le_succ (hI1_5 i)))),(fun i=>Nat.le_trans (Nat.le_trans (zDn _ _ _ i) (Nat.succ_le_succ (Nat.le_trans (zET _ _ _ _ i) (Nat.succ_le_succ (hI1_6 i))))) (by omega)),(Nat.le_trans (zB7 _ _ _) (Nat.succ_le_succ hI1_7)),hrf29⟩
     omega
    rw [c_31] at hs
    replace c_31:=zAD c_31
    revert a w hs
    refine go 16 [] [114,18,17,16,15,2,7,9,60,61,62] .n ?_
    intro a w hs;refine zB (v:=.tuple #[zI ((cDo c C (L.getD j default)).K.off),zI ((cDo c C (L.getD j default)).K.j),zI ((cDo c C (L.getD j default)).K.now)]) hs (.c rfl .n) call19 (zAl hY23  _ (hs.mem.del (.s (.s (.s (.s (.s (.s .z)))))))) rfl ?_
    refine goL 8 [] [120,21,20,19,18,17,16,15,2,7,9,60,61,62] .n ?_
    intro a w hs;refine zB (v:=.tuple #[zI ((cDo c (zBC c D ((L.getD j default).at_) (zA bb)) (L.getD j default)).K.off),zI ((cDo c (zBC c D ((L.getD j default).at_) (zA bb)) (L.getD j default)).K.j),zI ((cDo c (zBC c D ((L.getD j default).at_) (zA bb)) (L.getD j default)).K.now)]) hs (.c rfl .n) call19 (zAl hY27  _ (hs.mem.del (.s (.s .z)))) rfl ?_
    refine goL 9 [0,1] [126,125,24,23,22,21,20,19,18,16,2,7,9,60,61,62] (.c (.s (.s (.s (.s .z)))) (.c .z .n)) ⟨rfl,rfl,?_⟩
    intro a w hs;refine zB (v:=.bool true) hs (.c rfl (.c rfl .n)) call20 (zCN (zIx c C (L.getD j default)) _ _ _ (zK (hs.mem.del (.s (.s (.s (.s (.s .z))))))) (zK (hs.mem.del (.s (.s .z))))) rfl ?_
    refine goL 5 [] [132,129,24,23,22,21,20,19,2,7,9,60,61,62] .n ?_
    have hb_:(!((((zFS c C (L.getD j default):Nat):Int):Int) == ((zFS c C (L.getD j default):Nat):Int))) = false:=zGe rfl
    intro a w hs;rw [hb_] at hs;clear hb_
    revert a w hs
    refine go 5 [] [137,134,24,23,21,20,2,7,9,60,61,62] .n ?_
    have hb_:(!(((cDo c C (L.getD j default)).K.off:Int) == ((cDo c (zBC c D ((L.getD j default).at_) (zA bb)) (L.getD j default)).K.off))) = false:=zGr (congrArg (fun K:KS=>K.off) hrf29.K)
    intro a w hs;rw [hb_] at hs;clear hb_
    revert a w hs
    refine go 5 [] [142,139,24,21,2,7,9,60,61,62] .n ?_
    have hb_:(!(((cDo c C (L.getD j default)).K.j:Int) == ((cDo c (zBC c D ((L.getD j default).at_) (zA bb)) (L.getD j default)).K.j))) = false:=zGr (congrArg (fun K:KS=>K.j) hrf29.K)
    intro a w hs;rw [hb_] at hs;clear hb_
    revert a w hs
    refine go 5 [] [147,144,2,7,9,60,61,62] .n ?_
    have hb_:(!(((cDo c C (L.getD j default)).K.now:Int) == ((cDo c (zBC c D ((L.getD j default).at_) (zA bb)) (L.getD j default)).K.now))) = false:=zGr (congrArg (fun K:KS=>K.now) hrf29.K)
    intro a w hs;rw [hb_] at hs;clear hb_
    revert a w hs
    refine go 3 [] [150,149,2,7,9,60,61,62] .n ?_
    intro a w hs;refine zC hs rfl rfl rfl ?_
    refine zB (v:=nI ((cDo c C (L.getD j default)).σ.n 0)) hs (.c rfl .n) call17 (zAk hY23  _ (hs.mem.del (.s (.s (.s (.s (.s (.s .z)))))))) rfl ?_
    refine goL 1 [] [152,151,149,2,7,9,60,61,62] .n ?_
    intro a w hs;refine zC hs rfl rfl rfl ?_
    refine zB (v:=nI ((cDo c (zBC c D ((L.getD j default).at_) (zA bb)) (L.getD j default)).σ.n 0)) hs (.c rfl .n) call17 (zAk hY27  _ (hs.mem.del (.s (.s (.s .z))))) rfl ?_
    refine goL 1 [] [154,149,2,7,9,60,61,62] .n ?_
    have hb_:(!(((((cDo c C (L.getD j default)).σ.n 0:Nat):Int):Int) == (((cDo c (zBC c D ((L.getD j default).at_) (zA bb)) (L.getD j default)).σ.n 0:Nat):Int))) = false:=zGe hrf29.n0
    intro a w hs;rw [hb_] at hs;clear hb_
    revert a w hs
    refine go 3 [] [157,156,2,7,9,60,61,62] .n ?_
    intro a w hs;refine zC hs rfl rfl rfl ?_
    refine zG hs (.c rfl .n) call12 .n (zA6 hY23 _ (hs.mem.del (.s (.s (.s (.s (.s (.s .z)))))))) rfl ?_;clear hs w a;rintro v41 _ a w rfl hs
    refine zC hs rfl rfl rfl ?_
    refine zW hs rfl (zK (hs.mem.del .z)).isSl underlying40 rfl ?_
    refine goL 1 [] [160,159,156,2,7,9,60,61,62] .n ?_
    intro a w hs;refine zC hs rfl rfl rfl ?_
    refine zG hs (.c rfl .n) call12 .n (zA6 hY27 _ (hs.mem.del (.s (.s (.s (.s .z)))))) rfl ?_;clear hs w a;rintro v42 _ a w rfl hs
    refine zC hs rfl rfl rfl ?_
    refine zW hs rfl (zK (hs.mem.del .z)).isSl underlying40 rfl ?_
    refine goL 1 [] [163,156,2,7,9,60,61,62] .n ?_
    have hb_:(!(((((cDo c C (L.getD j default)).σ.l.length:Nat):Int):Int) == (((cDo c (zBC c D ((L.getD j default).at_) (zA bb)) (L.getD j default)).σ.l.length:Nat):Int))) = false:=zGe (congrArg List.length hrf29.l).symm
    intro a w hs;rw [hb_] at hs;clear hb_
    revert a w hs
    refine go 4 [] [62,2,7,9,60,61] .n ⟨(by omega),?_⟩
    refine cl (·.drop (.c (.s (.s (.s (.s (.s (.s (.s (.s (.s (.s .z)))))))))) (.c (.s (.s (.s (.s (.s (.s (.s (.s (.s .z))))))))) (.c (.s (.s (.s (.s (.s (.s (.s .z))))))) (.c (.s (.s (.s (.s (.s (.s .z)))))) (.c (.s (.s (.s (.s .z)))) (.c (.s (.s (.s .z))) (.c (.s (.s .z)) (.c (.s .z) (.c .z .n)))))))))) ?_
    refine cl (·.reorder (.c (.s .z) (.c .z .n))) ?_
    intro a w hs;refine ⟨_,?_,(j + 1),Y22,(cDo c C (L.getD j default)),Y26,(cDo c (zBC c D ((L.getD j default).at_) (zA bb)) (L.getD j default)),rfl,hs.sub (.c rfl (.c rfl (.c rfl (.c rfl (.c rfl (.c rfl .n)))))),by omega,hY23,hY27,(zB4 hk ⟨by omega,by omega⟩ hI1_3),(zB4 hk ⟨by omega,by omega⟩ (zDS hk hI1_4)),(fun i=>(Nat.le_trans (zDn _ _ _ i) (Nat.succ_le_succ (hI1_5 i)))),(fun i=>Nat.le_trans (Nat.le_trans (zDn _ _ _ i) (Nat.succ_le_succ (Nat.le_trans (zET _ _ _ _ i) (Nat.succ_le_succ (hI1_6 i))))) (by omega)),(Nat.le_trans (zB7 _ _ _) (Nat.succ_le_succ hI1_7)),hrf29⟩
    omega
   rw [c_18] at hs
   replace c_18:=zFa c_18
   replace c_18:=eq_of_beq c_18
   revert a w hs
   refine go 10 [0] [86,85,12,2,7,9,60,61,62] (.c (.s (.s .z)) .n) ⟨rfl,?_⟩
   intro a w hs;refine zG hs (.c rfl (.c rfl .n)) call11 (.c (.s (.s (.s .z))) .n) (zJX hI1_1 hk hI1_3 (fun i=>Nat.le_trans (hI1_5 i) (by omega)) (Nat.le_trans hI1_7 (by omega)) (L.getD j default) ⟨by omega,by omega⟩ _ (hs.mem.del (.s (.s (.s .z)))) (hs.mem.rd1 (hL _ (zG6 (by omega))).rd (.c (.s (.s (.s .z))) .n)) ⟨by omega,by omega⟩) rfl ?_;clear hs w a;rintro _ _ a w ⟨v45,rfl,Y43,rfl,hY44⟩ hs
   revert a w hs
   refine goL 4 [] [15,89,88,12,2,7,9,60,61,62] .n (fun g46=>?_)
   intro a w hs;refine zAU hs rfl rfl .z (.z (.c (.c (.c .n)))) (zJ rfl (zJ rfl (zJ (zK (hs.mem.del (.s .z))).isSl.one zAa))) sizeOf36 rfl ?_
   refine goL 2 [] [91,16,15,12,2,7,9,60,61,62] .n ?_
   have hokd_:=Cli.oks hI1_2
   refine go 1 [0] [92,91,16,15,12,2,7,9,60,61,62] (.c (.s (.s (.s .z))) .n) ⟨rfl,?_⟩
   intro a w hs;refine zG hs (.c rfl (.c rfl .n)) call11 (.c (.s (.s (.s (.s (.s (.s .z)))))) .n) (zJX hI1_2 hk hI1_4 (fun i=>Nat.le_trans (hI1_6 i) (by omega)) (Nat.le_trans (Nat.le_trans (Nat.le_of_eq hI1_8.fr) hI1_7) (by omega)) (L.getD j default) ⟨by omega,by omega⟩ _ (hs.mem.del (.s (.s (.s (.s (.s (.s .z))))))) (hs.mem.rd1 (hL _ (zG6 (by omega))).rd (.c (.s (.s (.s (.s (.s (.s .z)))))) .n)) ⟨by omega,by omega⟩) rfl ?_;clear hs w a;rintro _ _ a w ⟨v49,rfl,Y47,rfl,hY48⟩ hs
   have hrf50:=(hI1_8).do_ c (L.getD j default)
   rw [(hI1_8).doS c (L.getD j default),(hI1_8).doE c (L.getD j default)] at hs
   revert a w hs
   refine goL 4 [] [17,95,94,16,15,12,2,7,9,60,61,62] .n (fun g51=>?_)
   intro a w hs;refine zAU hs rfl rfl .z (.z (.c (.c (.c .n)))) (zJ rfl (zJ rfl (zJ (zK (hs.mem.del (.s .z))).isSl.one zAa))) sizeOf36 rfl ?_
   refine goL 4 [] [98,18,17,16,15,12,2,7,9,60,61,62] .n ?_
   intro a w hs;refine zT (b:=(((zFS c C (L.getD j default):Nat):Int):Int) == 0) (fun c_52=>?_) (fun c_52=>?_)
   ·
    rw [c_52] at hs
    replace c_52:=eq_of_beq c_52
    revert a w hs
    refine go 5 [0] [103,18,17,16,15,12,2,7,9,60,61,62] (.c (.s (.s (.s .z))) .n) ⟨rfl,?_⟩
    intro a w hs;refine zT (b:=((L.getD j default).k:Int) == 0) (fun c_53=>?_) (fun c_53=>?_)
    ·
     rw [c_53] at hs
     replace c_53:=eq_of_beq c_53
     revert a w hs
     refine go 3 [0] [106,104,103,18,17,16,15,12,2,7,9,60,61,62] (.c .z .n) ⟨rfl,?_⟩
     intro a w hs;refine zC hs rfl rfl rfl ?_
     refine zDi hs rfl rfl rfl ?_
     refine goL 2 [0] [109,107,104,103,18,17,16,15,2,7,9,60,61,62] (.c .z .n) ⟨rfl,?_⟩
     intro a w hs;refine zC hs rfl rfl rfl ?_
     refine zG hs (.c rfl (.c rfl (.c rfl .n))) call15 (.c (.s (.s (.s .z))) .n) (zFd hY48 hk (zB4 hk ⟨by omega,by omega⟩ hI1_4) (fun i=>Nat.le_trans (Nat.le_trans (zDn _ _ _ i) (Nat.succ_le_succ (hI1_6 i))) (by omega)) (Nat.le_trans (Nat.le_trans (zB7 _ _ _) (Nat.succ_le_succ (Nat.le_trans (Nat.le_of_eq hI1_8.fr) hI1_7))) (by omega)) (IntKind.i64.wrap (((L.getD j default).at_) + 1)) (zC7 _) _ (hs.mem.del (.s (.s (.s .z)))) (hs.mem.rd1 (hL _ (zG6 (by omega))).rd (.c (.s (.s (.s .z))) .n))) rfl ?_;clear hs w a;rintro _ _ a w ⟨rfl,Y54,rfl,hY55⟩ hs
     have hdu56:=zQt (e:=(L.getD j default)) (hI1_8) hokd_ (by assumption) (by assumption)
     have hrf57:=(hrf50).no (x:=IntKind.i64.wrap ((L.getD j default).at_ + 1)) hdu56
     revert a w hs
     refine goL 1 [] [111,103,18,17,16,15,2,7,9,60,61,62] .n ?_
     have hb_:((((zBz c (cDo c D (L.getD j default)) (zA ((L.getD j default).bs)):Nat):Int):Int) == 0) = false:=zaw hdu56
     intro a w hs;rw [hb_] at hs;clear hb_
     revert a w hs
     refine go 3 [] [114,18,17,16,15,2,7,9,60,61,62] .n ?_
     intro a w hs;refine zB (v:=.tuple #[zI ((cDo c C (L.getD j default)).K.off),zI ((cDo c C (L.getD j default)).K.j),zI ((cDo c C (L.getD j default)).K.now)]) hs (.c rfl .n) call19 (zAl hY44  _ (hs.mem.del (.s (.s (.s (.s (.s (.s .z)))))))) rfl ?_
     refine goL 8 [] [120,21,20,19,18,17,16,15,2,7,9,60,61,62] .n ?_
     intro a w hs;refine zB (v:=.tuple #[zI ((zBC c (cDo c D (L.getD j default)) (IntKind.i64.wrap (((L.getD j default).at_) + 1)) (zA ((L.getD j default).bs))).K.off),zI ((zBC c (cDo c D (L.getD j default)) (IntKind.i64.wrap (((L.getD j default).at_) + 1)) (zA ((L.getD j default).bs))).K.j),zI ((zBC c (cDo c D (L.getD j default)) (IntKind.i64.wrap (((L.getD j default).at_) + 1)) (zA ((L.getD j default).bs))).K.now)]) hs (.c rfl .n) call19 (zAl hY55  _ (hs.mem.del .z)) rfl ?_
     refine goL 9 [0,1] [126,125,24,23,22,21,20,19,18,16,2,7,9,60,61,62] (.c (.s (.s (.s (.s .z)))) (.c (.s (.s .z)) .n)) ⟨rfl,rfl,?_⟩
     intro a w hs;refine zB (v:=.bool true) hs (.c rfl (.c rfl .n)) call20 (zCN (zIx c C (L.getD j default)) _ _ _ (zK (hs.mem.del (.s (.s (.s (.s (.s .z))))))) (zK (hs.mem.del (.s (.s (.s (.s .z))))))) rfl ?_
     refine goL 5 [] [132,129,24,23,22,21,20,19,2,7,9,60,61,62] .n ?_
     have hb_:(!((((zFS c C (L.getD j default):Nat):Int):Int) == ((zFS c C (L.getD j default):Nat):Int))) = false:=zGe rfl
     intro a w hs;rw [hb_] at hs;clear hb_
     revert a w hs
     refine go 5 [] [137,134,24,23,21,20,2,7,9,60,61,62] .n ?_
     have hb_:(!(((cDo c C (L.getD j default)).K.off:Int) == ((zBC c (cDo c D (L.getD j default)) (IntKind.i64.wrap (((L.getD j default).at_) + 1)) (zA ((L.getD j default).bs))).K.off))) = false:=zGr (congrArg (fun K:KS=>K.off) hrf57.K)
     intro a w hs;rw [hb_] at hs;clear hb_
     revert a w hs
     refine go 5 [] [142,139,24,21,2,7,9,60,61,62] .n ?_
     have hb_:(!(((cDo c C (L.getD j default)).K.j:Int) == ((zBC c (cDo c D (L.getD j default)) (IntKind.i64.wrap (((L.getD j default).at_) + 1)) (zA ((L.getD j default).bs))).K.j))) = false:=zGr (congrArg (fun K:KS=>K.j) hrf57.K)
     intro a w hs;rw [hb_] at hs;clear hb_
     revert a w hs
     refine go 5 [] [147,144,2,7,9,60,61,62] .n ?_
     have hb_:(!(((cDo c C (L.getD j default)).K.now:Int) == ((zBC c (cDo c D (L.getD j default)) (IntKind.i64.wrap (((L.getD j default).at_) + 1)) (zA ((L.getD j default).bs))).K.now))) = false:=zGr (congrArg (fun K:KS=>K.now) hrf57.K)
     intro a w hs;rw [hb_] at hs;clear hb_
     revert a w hs
     refine go 3 [] [150,149,2,7,9,60,61,62] .n ?_
     intro a w hs;refine zC hs rfl rfl rfl ?_
     refine zB (v:=nI ((cDo c C (L.getD j default)).σ.n 0)) hs (.c rfl .n) call17 (zAk hY44  _ (hs.mem.del (.s (.s (.s (.s (.s (.s .z)))))))) rfl ?_
     refine goL 1 [] [152,151,149,2,7,9,60,61,62] .n ?_
     intro a w hs;refine zC hs rfl rfl rfl ?_
     refine zB (v:=nI ((zBC c (cDo c D (L.getD j default)) (IntKind.i64.wrap (((L.getD j default).at_) + 1)) (zA ((L.getD j default).bs))).σ.n 0)) hs (.c rfl .n) call17 (zAk hY55  _ (hs.mem.del (.s (.s .z)))) rfl ?_
     refine goL 1 [] [154,149,2,7,9,60,61,62] .n ?_
     have hb_:(!(((((cDo c C (L.getD j default)).σ.n 0:Nat):Int):Int) == (((zBC c (cDo c D (L.getD j default)) (IntKind.i64.wrap (((L.getD j default).at_) + 1)) (zA ((L.getD j default).bs))).σ.n 0:Nat):Int))) = false:=zGe hrf57.n0
     intro a w hs;rw [hb_] at hs;clear hb_
     revert a w hs
     refine go 3 [] [157,156,2,7,9,60,61,62] .n ?_
     intro a w hs;refine zC hs rfl rfl rfl ?_
     refine zG hs (.c rfl .n) call12 .n (zA6 hY44 _ (hs.mem.del (.s (.s (.s (.s (.s (.s .z)))))))) rfl ?_;clear hs w a;rintro v58 _ a w rfl hs
     refine zC hs rfl rfl rfl ?_
     refine zW hs rfl (zK (hs.mem.del .z)).isSl underlying40 rfl ?_
     refine goL 1 [] [160,159,156,2,7,9,60,61,62] .n ?_
     intro a w hs;refine zC hs rfl rfl rfl ?_
     refine zG hs (.c rfl .n) call12 .n (zA6 hY55 _ (hs.mem.del (.s (.s (.s .z))))) rfl ?_;clear hs w a;rintro v59 _ a w rfl hs
     refine zC hs rfl rfl rfl ?_
     refine zW hs rfl (zK (hs.mem.del .z)).isSl underlying40 rfl ?_
     refine goL 1 [] [163,156,2,7,9,60,61,62] .n ?_
     have hb_:(!(((((cDo c C (L.getD j default)).σ.l.length:Nat):Int):Int) == (((zBC c (cDo c D (L.getD j default)) (IntKind.i64.wrap (((L.getD j default).at_) + 1)) (zA ((L.getD j default).bs))).σ.l.length:Nat):Int))) = false:=zGe (congrArg List.length hrf57.l).symm
     intro a w hs;rw [hb_] at hs;clear hb_
     revert a w hs
     refine go 4 [] [62,2,7,9,60,61] .n ⟨(by omega),?_⟩
     refine cl (·.drop (.c (.s (.s (.s (.s (.s (.s (.s (.s (.s (.s .z)))))))))) (.c (.s (.s (.s (.s (.s (.s (.s (.s (.s .z))))))))) (.c (.s (.s (.s (.s (.s (.s (.s .z))))))) (.c (.s (.s (.s (.s (.s (.s .z)))))) (.c (.s (.s (.s (.s (.s .z))))) (.c (.s (.s (.s .z))) (.c (.s (.s .z)) (.c (.s .z) (.c .z .n)))))))))) ?_
     refine cl (·.reorder (.c (.s .z) (.c .z .n))) ?_
     intro a w hs;refine ⟨_,?_,(j + 1),Y43,(cDo c C (L.getD j default)),Y54,(zBC c (cDo c D (L.getD j default)) (IntKind.i64.wrap (((L.getD j default).at_) + 1)) (zA ((L.getD j default).bs))),rfl,hs.sub (.c rfl (.c rfl (.c rfl (.c rfl (.c rfl (.c rfl .n)))))),by omega,hY44,hY55,(zB4 hk ⟨by omega,by omega⟩ hI1_3),(zDS hk (zB4 hk ⟨by omega,by omega⟩ hI1_4)),(fun i=>(Nat.le_trans (zDn _ _ _ i) (Nat.succ_le_succ (hI1_5 i)))),(fun i=>Nat.le_trans (Nat.le_trans (zET _ _ _ _ i) (Nat.succ_le_succ (Nat.le_trans (zDn _ _ _ i) (Nat.succ_le_succ (hI1_6 i))))) (by omega)),(Nat.le_trans (zB7 _ _ _) (Nat.succ_le_succ hI1_7)),hrf57⟩
     omega
    rw [c_53] at hs
    replace c_53:=zAD c_53
    revert a w hs
    refine go 11 [] [114,18,17,16,15,2,7,9,60,61,62] .n ?_
    intro a w hs;refine zB (v:=.tuple #[zI ((cDo c C (L.getD j default)).K.off),zI ((cDo c C (L.getD j default)).K.j),zI ((cDo c C (L.getD j default)).K.now)]) hs (.c rfl .n) call19 (zAl hY44  _ (hs.mem.del (.s (.s (.s (.s (.s (.s .z)))))))) rfl ?_
    refine goL 8 [] [120,21,20,19,18,17,16,15,2,7,9,60,61,62] .n ?_
    intro a w hs;refine zB (v:=.tuple #[zI ((cDo c D (L.getD j default)).K.off),zI ((cDo c D (L.getD j default)).K.j),zI ((cDo c D (L.getD j default)).K.now)]) hs (.c rfl .n) call19 (zAl hY48  _ (hs.mem.del (.s (.s (.s .z))))) rfl ?_
    refine goL 9 [0,1] [126,125,24,23,22,21,20,19,18,16,2,7,9,60,61,62] (.c (.s (.s (.s (.s .z)))) (.c (.s .z) .n)) ⟨rfl,rfl,?_⟩
    intro a w hs;refine zB (v:=.bool true) hs (.c rfl (.c rfl .n)) call20 (zCN (zIx c C (L.getD j default)) _ _ _ (zK (hs.mem.del (.s (.s (.s (.s (.s .z))))))) (zK (hs.mem.del (.s (.s (.s .z)))))) rfl ?_
    refine goL 5 [] [132,129,24,23,22,21,20,19,2,7,9,60,61,62] .n ?_
    have hb_:(!((((zFS c C (L.getD j default):Nat):Int):Int) == ((zFS c C (L.getD j default):Nat):Int))) = false:=zGe rfl
    intro a w hs;rw [hb_] at hs;clear hb_
    revert a w hs
    refine go 5 [] [137,134,24,23,21,20,2,7,9,60,61,62] .n ?_
    have hb_:(!(((cDo c C (L.getD j default)).K.off:Int) == ((cDo c D (L.getD j default)).K.off))) = false:=zGr (congrArg (fun K:KS=>K.off) hrf50.K)
    intro a w hs;rw [hb_] at hs;clear hb_
    revert a w hs
    refine go 5 [] [142,139,24,21,2,7,9,60,61,62] .n ?_
    have hb_:(!(((cDo c C (L.getD j default)).K.j:Int) == ((cDo c D (L.getD j default)).K.j))) = false:=zGr (congrArg (fun K:KS=>K.j) hrf50.K)
    intro a w hs;rw [hb_] at hs;clear hb_
    revert a w hs
    refine go 5 [] [147,144,2,7,9,60,61,62] .n ?_
    have hb_:(!(((cDo c C (L.getD j default)).K.now:Int) == ((cDo c D (L.getD j default)).K.now))) = false:=zGr (congrArg (fun K:KS=>K.now) hrf50.K)
    intro a w hs;rw [hb_] at hs;clear hb_
    revert a w hs
    refine go 3 [] [150,149,2,7,9,60,61,62] .n ?_
    intro a w hs;refine zC hs rfl rfl rfl ?_
    refine zB (v:=nI ((cDo c C (L.getD j default)).σ.n 0)) hs (.c rfl .n) call17 (zAk hY44  _ (hs.mem.del (.s (.s (.s (.s (.s (.s .z)))))))) rfl ?_
    refine goL 1 [] [152,151,149,2,7,9,60,61,62] .n ?_
    intro a w hs;refine zC hs rfl rfl rfl ?_
    refine zB (v:=nI ((cDo c D (L.getD j default)).σ.n 0)) hs (.c rfl .n) call17 (zAk hY48  _ (hs.mem.del (.s (.s (.s (.s .z)))))) rfl ?_
    refine goL 1 [] [154,149,2,7,9,60,61,62] .n ?_
    have hb_:(!(((((cDo c C (L.getD j default)).σ.n 0:Nat):Int):Int) == (((cDo c D (L.getD j default)).σ.n 0:Nat):Int))) = false:=zGe hrf50.n0
    intro a w hs;rw [hb_] at hs;clear hb_
    revert a w hs
    refine go 3 [] [157,156,2,7,9,60,61,62] .n ?_
    intro a w hs;refine zC hs rfl rfl rfl ?_
    refine zG hs (.c rfl .n) call12 .n (zA6 hY44 _ (hs.mem.del (.s (.s (.s (.s (.s (.s .z)))))))) rfl ?_;clear hs w a;rintro v60 _ a w rfl hs
    refine zC hs rfl rfl rfl ?_
    refine zW hs rfl (zK (hs.mem.del .z)).isSl underlying40 rfl ?_
    refine goL 1 [] [160,159,156,2,7,9,60,61,62] .n ?_
    intro a w hs;refine zC hs rfl rfl rfl ?_
    refine zG hs (.c rfl .n) call12 .n (zA6 hY48 _ (hs.mem.del (.s (.s (.s (.s (.s .z))))))) rfl ?_;clear hs w a;rintro v61 _ a w rfl hs
    refine zC hs rfl rfl rfl ?_
    refine zW hs rfl (zK (hs.mem.del .z)).isSl underlying40 rfl ?_
    refine goL 1 [] [163,156,2,7,9,60,61,62] .n ?_
    have hb_:(!(((((cDo c C (L.getD j default)).σ.l.length:Nat):Int):Int) == (((cDo c D (L.getD j default)).σ.l.length:Nat):Int))) = false:=zGe (congrArg List.length hrf50.l).symm
    intro a w hs;rw [hb_] at hs;clear hb_
    revert a w hs
    refine go 4 [] [62,2,7,9,60,61] .n ⟨(by omega),?_⟩
    refine cl (·.drop (.c (.s (.s (.s (.s (.s (.s (.s (.s (.s (.s .z)))))))))) (.c (.s (.s (.s (.s (.s (.s (.s (.s (.s .z))))))))) (.c (.s (.s (.s (.s (.s (.s (.s .z))))))) (.c (.s (.s (.s (.s (.s .z))))) (.c (.s (.s (.s (.s .z)))) (.c (.s (.s (.s .z))) (.c (.s (.s .z)) (.c (.s .z) (.c .z .n)))))))))) ?_
    refine cl (·.reorder (.c (.s .z) (.c .z .n))) ?_
    intro a w hs;refine ⟨_,?_,(j + 1),Y43,(cDo c C (L.getD j default)),Y47,(cDo c D (L.getD j default)),rfl,hs.sub (.c rfl (.c rfl (.c rfl (.c rfl (.c rfl (.c rfl .n)))))),by omega,hY44,hY48,(zB4 hk ⟨by omega,by omega⟩ hI1_3),(zB4 hk ⟨by omega,by omega⟩ hI1_4),(fun i=>(Nat.le_trans (zDn _ _ _ i) (Nat.succ_le_succ (hI1_5 i)))),(fun i=>Nat.le_trans (Nat.le_trans (zDn _ _ _ i) (Nat.succ_le_succ (hI1_6 i))) (by omega)),(Nat.le_trans (zB7 _ _ _) (Nat.succ_le_succ hI1_7)),hrf50⟩
    omega
   rw [c_52] at hs
   replace c_52:=zAD c_52
   revert a w hs
   refine go 16 [] [114,18,17,16,15,2,7,9,60,61,62] .n ?_
   intro a w hs;refine zB (v:=.tuple #[zI ((cDo c C (L.getD j default)).K.off),zI ((cDo c C (L.getD j default)).K.j),zI ((cDo c C (L.getD j default)).K.now)]) hs (.c rfl .n) call19 (zAl hY44  _ (hs.mem.del (.s (.s (.s (.s (.s (.s .z)))))))) rfl ?_
   refine goL 8 [] [120,21,20,19,18,17,16,15,2,7,9,60,61,62] .n ?_
   intro a w hs;refine zB (v:=.tuple #[zI ((cDo c D (L.getD j default)).K.off),zI ((cDo c D (L.getD j default)).K.j),zI ((cDo c D (L.getD j default)).K.now)]) hs (.c rfl .n) call19 (zAl hY48  _ (hs.mem.del (.s (.s .z)))) rfl ?_
   refine goL 9 [0,1] [126,125,24,23,22,21,20,19,18,16,2,7,9,60,61,62] (.c (.s (.s (.s (.s .z)))) (.c .z .n)) ⟨rfl,rfl,?_⟩
   intro a w hs;refine zB (v:=.bool true) hs (.c rfl (.c rfl .n)) call20 (zCN (zIx c C (L.getD j default)) _ _ _ (zK (hs.mem.del (.s (.s (.s (.s (.s .z))))))) (zK (hs.mem.del (.s (.s .z))))) rfl ?_
   refine goL 5 [] [132,129,24,23,22,21,20,19,2,7,9,60,61,62] .n ?_
   have hb_:(!((((zFS c C (L.getD j default):Nat):Int):Int) == ((zFS c C (L.getD j default):Nat):Int))) = false:=zGe rfl
   intro a w hs;rw [hb_] at hs;clear hb_
   revert a w hs
   refine go 5 [] [137,134,24,23,21,20,2,7,9,60,61,62] .n ?_
   have hb_:(!(((cDo c C (L.getD j default)).K.off:Int) == ((cDo c D (L.getD j default)).K.off))) = false:=zGr (congrArg (fun K:KS=>K.off) hrf50.K)
   intro a w hs;rw [hb_] at hs;clear hb_
   revert a w hs
   refine go 5 [] [142,139,24,21,2,7,9,60,61,62] .n ?_
   have hb_:(!(((cDo c C (L.getD j default)).K.j:Int) == ((cDo c D (L.getD j default)).K.j))) = false:=zGr (congrArg (fun K:KS=>K.j) hrf50.K)
   intro a w hs;rw [hb_] at hs;clear hb_
   revert a w hs
   refine go 5 [] [147,144,2,7,9,60,61,62] .n ?_
   have hb_:(!(((cDo c C (L.getD j default)).K.now:Int) == ((cDo c D (L.getD j default)).K.now))) = false:=zGr (congrArg (fun K:KS=>K.now) hrf50.K)
   intro a w hs;rw [hb_] at hs;clear hb_
   revert a w hs
   refine go 3 [] [150,149,2,7,9,60,61,62] .n ?_
   intro a w hs;refine zC hs rfl rfl rfl ?_
   refine zB (v:=nI ((cDo c C (L.getD j default)).σ.n 0)) hs (.c rfl .n) call17 (zAk hY44  _ (hs.mem.del (.s (.s (.s (.s (.s (.s .z)))))))) rfl ?_
   refine goL 1 [] [152,151,149,2,7,9,60,61,62] .n ?_
   intro a w hs;refine zC hs rfl rfl rfl ?_
   refine zB (v:=nI ((cDo c D (L.getD j default)).σ.n 0)) hs (.c rfl .n) call17 (zAk hY48  _ (hs.mem.del (.s (.s (.s .z))))) rfl ?_
   refine goL 1 [] [154,149,2,7,9,60,61,62] .n ?_
   have hb_:(!(((((cDo c C (L.getD j default)).σ.n 0:Nat):Int):Int) == (((cDo c D (L.getD j default)).σ.n 0:Nat):Int))) = false:=zGe hrf50.n0
   intro a w hs;rw [hb_] at hs;clear hb_
   revert a w hs
   refine go 3 [] [157,156,2,7,9,60,61,62] .n ?_
   intro a w hs;refine zC hs rfl rfl rfl ?_
   refine zG hs (.c rfl .n) call12 .n (zA6 hY44 _ (hs.mem.del (.s (.s (.s (.s (.s (.s .z)))))))) rfl ?_;clear hs w a;rintro v62 _ a w rfl hs
   refine zC hs rfl rfl rfl ?_
   refine zW hs rfl (zK (hs.mem.del .z)).isSl underlying40 rfl ?_
   refine goL 1 [] [160,159,156,2,7,9,60,61,62] .n ?_
   intro a w hs;refine zC hs rfl rfl rfl ?_
   refine zG hs (.c rfl .n) call12 .n (zA6 hY48 _ (hs.mem.del (.s (.s (.s (.s .z)))))) rfl ?_;clear hs w a;rintro v63 _ a w rfl hs
   refine zC hs rfl rfl rfl ?_
   refine zW hs rfl (zK (hs.mem.del .z)).isSl underlying40 rfl ?_
   refine goL 1 [] [163,156,2,7,9,60,61,62] .n ?_
   have hb_:(!(((((cDo c C (L.getD j default)).σ.l.length:Nat):Int):Int) == (((cDo c D (L.getD j default)).σ.l.length:Nat):Int))) = false:=zGe (congrArg List.length hrf50.l).symm
   intro a w hs;rw [hb_] at hs;clear hb_
   revert a w hs
   refine go 4 [] [62,2,7,9,60,61] .n ⟨(by omega),?_⟩
   refine cl (·.drop (.c (.s (.s (.s (.s (.s (.s (.s (.s (.s (.s .z)))))))))) (.c (.s (.s (.s (.s (.s (.s (.s (.s (.s .z))))))))) (.c (.s (.s (.s (.s (.s (.s (.s .z))))))) (.c (.s (.s (.s (.s (.s (.s .z)))))) (.c (.s (.s (.s (.s .z)))) (.c (.s (.s (.s .z))) (.c (.s (.s .z)) (.c (.s .z) (.c .z .n)))))))))) ?_
   refine cl (·.reorder (.c (.s .z) (.c .z .n))) ?_
   intro a w hs;refine ⟨_,?_,(j + 1),Y43,(cDo c C (L.getD j default)),Y47,(cDo c D (L.getD j default)),rfl,hs.sub (.c rfl (.c rfl (.c rfl (.c rfl (.c rfl (.c rfl .n)))))),by omega,hY44,hY48,(zB4 hk ⟨by omega,by omega⟩ hI1_3),(zB4 hk ⟨by omega,by omega⟩ hI1_4),(fun i=>(Nat.le_trans (zDn _ _ _ i) (Nat.succ_le_succ (hI1_5 i)))),(fun i=>Nat.le_trans (Nat.le_trans (zDn _ _ _ i) (Nat.succ_le_succ (hI1_6 i))) (by omega)),(Nat.le_trans (zB7 _ _ _) (Nat.succ_le_succ hI1_7)),hrf50⟩
   omega
  refine go 2 [0] [86,85,12,2,7,9,60,61,62] (.c .z .n) ⟨rfl,?_⟩
  intro a w hs;refine zG hs (.c rfl (.c rfl .n)) call11 (.c (.s .z) .n) (zJX hI1_1 hk hI1_3 (fun i=>Nat.le_trans (hI1_5 i) (by omega)) (Nat.le_trans hI1_7 (by omega)) (L.getD j default) ⟨by omega,by omega⟩ _ (hs.mem.del (.s .z)) (hs.mem.rd1 (hL _ (zG6 (by omega))).rd (.c (.s .z) .n)) ⟨by omega,by omega⟩) rfl ?_;clear hs w a;rintro _ _ a w ⟨v66,rfl,Y64,rfl,hY65⟩ hs
  revert a w hs
  refine goL 4 [] [15,89,88,12,2,7,9,60,61,62] .n (fun g67=>?_)
  intro a w hs;refine zAU hs rfl rfl .z (.z (.c (.c (.c .n)))) (zJ rfl (zJ rfl (zJ (zK (hs.mem.del (.s .z))).isSl.one zAa))) sizeOf36 rfl ?_
  refine goL 2 [] [91,16,15,12,2,7,9,60,61,62] .n ?_
  have hokd_:=Cli.oks hI1_2
  refine go 1 [0] [92,91,16,15,12,2,7,9,60,61,62] (.c (.s (.s (.s .z))) .n) ⟨rfl,?_⟩
  intro a w hs;refine zG hs (.c rfl (.c rfl .n)) call11 (.c (.s (.s (.s (.s .z)))) .n) (zJX hI1_2 hk hI1_4 (fun i=>Nat.le_trans (hI1_6 i) (by omega)) (Nat.le_trans (Nat.le_trans (Nat.le_of_eq hI1_8.fr) hI1_7) (by omega)) (L.getD j default) ⟨by omega,by omega⟩ _ (hs.mem.del (.s (.s (.s (.s .z))))) (hs.mem.rd1 (hL _ (zG6 (by omega))).rd (.c (.s (.s (.s (.s .z)))) .n)) ⟨by omega,by omega⟩) rfl ?_;clear hs w a;rintro _ _ a w ⟨v70,rfl,Y68,rfl,hY69⟩ hs
  have hrf71:=(hI1_8).do_ c (L.getD j default)
  rw [(hI1_8).doS c (L.getD j default),(hI1_8).doE c (L.getD j default)] at hs
  revert a w hs
  refine goL 4 [] [17,95,94,16,15,12,2,7,9,60,61,62] .n (fun g72=>?_)
  intro a w hs;refine zAU hs rfl rfl .z (.z (.c (.c (.c .n)))) (zJ rfl (zJ rfl (zJ (zK (hs.mem.del (.s .z))).isSl.one zAa))) sizeOf36 rfl ?_
  refine goL 4 [] [98,18,17,16,15,12,2,7,9,60,61,62] .n ?_
  intro a w hs;refine zT (b:=(((zFS c C (L.getD j default):Nat):Int):Int) == 0) (fun c_73=>?_) (fun c_73=>?_)
  ·
   rw [c_73] at hs
   replace c_73:=eq_of_beq c_73
   revert a w hs
   refine go 5 [0] [103,18,17,16,15,12,2,7,9,60,61,62] (.c (.s (.s (.s .z))) .n) ⟨rfl,?_⟩
   intro a w hs;refine zT (b:=((L.getD j default).k:Int) == 0) (fun c_74=>?_) (fun c_74=>?_)
   ·
    rw [c_74] at hs
    replace c_74:=eq_of_beq c_74
    revert a w hs
    refine go 3 [0] [106,104,103,18,17,16,15,12,2,7,9,60,61,62] (.c .z .n) ⟨rfl,?_⟩
    intro a w hs;refine zC hs rfl rfl rfl ?_
    refine zDi hs rfl rfl rfl ?_
    refine goL 2 [0] [109,107,104,103,18,17,16,15,2,7,9,60,61,62] (.c .z .n) ⟨rfl,?_⟩
    intro a w hs;refine zC hs rfl rfl rfl ?_
    refine zG hs (.c rfl (.c rfl (.c rfl .n))) call15 (.c (.s (.s (.s .z))) .n) (zFd hY69 hk (zB4 hk ⟨by omega,by omega⟩ hI1_4) (fun i=>Nat.le_trans (Nat.le_trans (zDn _ _ _ i) (Nat.succ_le_succ (hI1_6 i))) (by omega)) (Nat.le_trans (Nat.le_trans (zB7 _ _ _) (Nat.succ_le_succ (Nat.le_trans (Nat.le_of_eq hI1_8.fr) hI1_7))) (by omega)) (IntKind.i64.wrap (((L.getD j default).at_) + 1)) (zC7 _) _ (hs.mem.del (.s (.s (.s .z)))) (hs.mem.rd1 (hL _ (zG6 (by omega))).rd (.c (.s (.s (.s .z))) .n))) rfl ?_;clear hs w a;rintro _ _ a w ⟨rfl,Y75,rfl,hY76⟩ hs
    have hdu77:=zQt (e:=(L.getD j default)) (hI1_8) hokd_ (by assumption) (by assumption)
    have hrf78:=(hrf71).no (x:=IntKind.i64.wrap ((L.getD j default).at_ + 1)) hdu77
    revert a w hs
    refine goL 1 [] [111,103,18,17,16,15,2,7,9,60,61,62] .n ?_
    have hb_:((((zBz c (cDo c D (L.getD j default)) (zA ((L.getD j default).bs)):Nat):Int):Int) == 0) = false:=zaw hdu77
    intro a w hs;rw [hb_] at hs;clear hb_
    revert a w hs
    refine go 3 [] [114,18,17,16,15,2,7,9,60,61,62] .n ?_
    intro a w hs;refine zB (v:=.tuple #[zI ((cDo c C (L.getD j default)).K.off),zI ((cDo c C (L.getD j default)).K.j),zI ((cDo c C (L.getD j default)).K.now)]) hs (.c rfl .n) call19 (zAl hY65  _ (hs.mem.del (.s (.s (.s (.s (.s (.s .z)))))))) rfl ?_
    refine goL 8 [] [120,21,20,19,18,17,16,15,2,7,9,60,61,62] .n ?_
    intro a w hs;refine zB (v:=.tuple #[zI ((zBC c (cDo c D (L.getD j default)) (IntKind.i64.wrap (((L.getD j default).at_) + 1)) (zA ((L.getD j default).bs))).K.off),zI ((zBC c (cDo c D (L.getD j default)) (IntKind.i64.wrap (((L.getD j default).at_) + 1)) (zA ((L.getD j default).bs))).K.j),zI ((zBC c (cDo c D (L.getD j default)) (IntKind.i64.wrap (((L.getD j default).at_) + 1)) (zA ((L.getD j default).bs))).K.now)]) hs (.c rfl .n) call19 (zAl hY76  _ (hs.mem.del .z)) rfl ?_
    refine goL 9 [0,1] [126,125,24,23,22,21,20,19,18,16,2,7,9,60,61,62] (.c (.s (.s (.s (.s .z)))) (.c (.s (.s .z)) .n)) ⟨rfl,rfl,?_⟩
    intro a w hs;refine zB (v:=.bool true) hs (.c rfl (.c rfl .n)) call20 (zCN (zIx c C (L.getD j default)) _ _ _ (zK (hs.mem.del (.s (.s (.s (.s (.s .z))))))) (zK (hs.mem.del (.s (.s (.s (.s .z))))))) rfl ?_
    refine goL 5 [] [132,129,24,23,22,21,20,19,2,7,9,60,61,62] .n ?_
    have hb_:(!((((zFS c C (L.getD j default):Nat):Int):Int) == ((zFS c C (L.getD j default):Nat):Int))) = false:=zGe rfl
    intro a w hs;rw [hb_] at hs;clear hb_
    revert a w hs
    refine go 5 [] [137,134,24,23,21,20,2,7,9,60,61,62] .n ?_
    have hb_:(!(((cDo c C (L.getD j default)).K.off:Int) == ((zBC c (cDo c D (L.getD j default)) (IntKind.i64.wrap (((L.getD j default).at_) + 1)) (zA ((L.getD j default).bs))).K.off))) = false:=zGr (congrArg (fun K:KS=>K.off) hrf78.K)
    intro a w hs;rw [hb_] at hs;clear hb_
    revert a w hs
    refine go 5 [] [142,139,24,21,2,7,9,60,61,62] .n ?_
    have hb_:(!(((cDo c C (L.getD j default)).K.j:Int) == ((zBC c (cDo c D (L.getD j default)) (IntKind.i64.wrap (((L.getD j default).at_) + 1)) (zA ((L.getD j default).bs))).K.j))) = false:=zGr (congrArg (fun K:KS=>K.j) hrf78.K)
    intro a w hs;rw [hb_] at hs;clear hb_
    revert a w hs
    refine go 5 [] [147,144,2,7,9,60,61,62] .n ?_
    have hb_:(!(((cDo c C (L.getD j default)).K.now:Int) == ((zBC c (cDo c D (L.getD j default)) (IntKind.i64.wrap (((L.getD j default).at_) + 1)) (zA ((L.getD j default).bs))).K.now))) = false:=zGr (congrArg (fun K:KS=>K.now) hrf78.K)
    intro a w hs;rw [hb_] at hs;clear hb_
    revert a w hs
    refine go 3 [] [150,149,2,7,9,60,61,62] .n ?_
    intro a w hs;refine zC hs rfl rfl rfl ?_
    refine zB (v:=nI ((cDo c C (L.getD j default)).σ.n 0)) hs (.c rfl .n) call17 (zAk hY65  _ (hs.mem.del (.s (.s (.s (.s (.s (.s .z)))))))) rfl ?_
    refine goL 1 [] [152,151,149,2,7,9,60,61,62] .n ?_
    intro a w hs;refine zC hs rfl rfl rfl ?_
    refine zB (v:=nI ((zBC c (cDo c D (L.getD j default)) (IntKind.i64.wrap (((L.getD j default).at_) + 1)) (zA ((L.getD j default).bs))).σ.n 0)) hs (.c rfl .n) call17 (zAk hY76  _ (hs.mem.del (.s (.s .z)))) rfl ?_
    refine goL 1 [] [154,149,2,7,9,60,61,62] .n ?_
    have hb_:(!(((((cDo c C (L.getD j default)).σ.n 0:Nat):Int):Int) == (((zBC c (cDo c D (L.getD j default)) (IntKind.i64.wrap (((L.getD j default).at_) + 1)) (zA ((L.getD j default).bs))).σ.n 0:Nat):Int))) = false:=zGe hrf78.n0
    intro a w hs;rw [hb_] at hs;clear hb_
    revert a w hs
    refine go 3 [] [157,156,2,7,9,60,61,62] .n ?_
    intro a w hs;refine zC hs rfl rfl rfl ?_
    refine zG hs (.c rfl .n) call12 .n (zA6 hY65 _ (hs.mem.del (.s (.s (.s (.s (.s (.s .z)))))))) rfl ?_;clear hs w a;rintro v79 _ a w rfl hs
    refine zC hs rfl rfl rfl ?_
    refine zW hs rfl (zK (hs.mem.del .z)).isSl underlying40 rfl ?_
    refine goL 1 [] [160,159,156,2,7,9,60,61,62] .n ?_
    intro a w hs;refine zC hs rfl rfl rfl ?_
    refine zG hs (.c rfl .n) call12 .n (zA6 hY76 _ (hs.mem.del (.s (.s (.s .z))))) rfl ?_;clear hs w a;rintro v80 _ a w rfl hs
    refine zC hs rfl rfl rfl ?_
    refine zW hs rfl (zK (hs.mem.del .z)).isSl underlying40 rfl ?_
    refine goL 1 [] [163,156,2,7,9,60,61,62] .n ?_
    have hb_:(!(((((cDo c C (L.getD j default)).σ.l.length:Nat):Int):Int) == (((zBC c (cDo c D (L.getD j default)) (IntKind.i64.wrap (((L.getD j default).at_) + 1)) (zA ((L.getD j default).bs))).σ.l.length:Nat):Int))) = false:=zGe (congrArg List.length hrf78.l).symm
    intro a w hs;rw [hb_] at hs;clear hb_
    revert a w hs
    refine go 4 [] [62,2,7,9,60,61] .n ⟨(by omega),?_⟩
    refine cl (·.drop (.c (.s (.s (.s (.s (.s (.s (.s .z))))))) (.c (.s (.s (.s (.s (.s (.s .z)))))) (.c (.s (.s (.s (.s (.s .z))))) (.c (.s (.s (.s .z))) (.c (.s (.s .z)) (.c (.s .z) (.c .z .n)))))))) ?_
    refine cl (·.reorder (.c (.s .z) (.c .z .n))) ?_
    intro a w hs;refine ⟨_,?_,(j + 1),Y64,(cDo c C (L.getD j default)),Y75,(zBC c (cDo c D (L.getD j default)) (IntKind.i64.wrap (((L.getD j default).at_) + 1)) (zA ((L.getD j default).bs))),rfl,hs.sub (.c rfl (.c rfl (.c rfl (.c rfl (.c rfl (.c rfl .n)))))),by omega,hY65,hY76,(zB4 hk ⟨by omega,by omega⟩ hI1_3),(zDS hk (zB4 hk ⟨by omega,by omega⟩ hI1_4)),(fun i=>(Nat.le_trans (zDn _ _ _ i) (Nat.succ_le_succ (hI1_5 i)))),(fun i=>Nat.le_trans (Nat.le_trans (zET _ _ _ _ i) (Nat.succ_le_succ (Nat.le_trans (zDn _ _ _ i) (Nat.succ_le_succ (hI1_6 i))))) (by omega)),(Nat.le_trans (zB7 _ _ _) (Nat.succ_le_succ hI1_7)),hrf78⟩
    omega
   rw [c_74] at hs
   replace c_74:=zAD c_74
   revert a w hs
   refine go 11 [] [114,18,17,16,15,2,7,9,60,61,62] .n ?_
   intro a w hs;refine zB (v:=.tuple #[zI ((cDo c C (L.getD j default)).K.off),zI ((cDo c C (L.getD j default)).K.j),zI ((cDo c C (L.getD j default)).K.now)]) hs (.c rfl .n) call19 (zAl hY65  _ (hs.mem.del (.s (.s (.s (.s (.s (.s .z)))))))) rfl ?_
   refine goL 8 [] [120,21,20,19,18,17,16,15,2,7,9,60,61,62] .n ?_
   intro a w hs;refine zB (v:=.tuple #[zI ((cDo c D (L.getD j default)).K.off),zI ((cDo c D (L.getD j default)).K.j),zI ((cDo c D (L.getD j default)).K.now)]) hs (.c rfl .n) call19 (zAl hY69  _ (hs.mem.del (.s (.s (.s .z))))) rfl ?_
   refine goL 9 [0,1] [126,125,24,23,22,21,20,19,18,16,2,7,9,60,61,62] (.c (.s (.s (.s (.s .z)))) (.c (.s .z) .n)) ⟨rfl,rfl,?_⟩
   intro a w hs;refine zB (v:=.bool true) hs (.c rfl (.c rfl .n)) call20 (zCN (zIx c C (L.getD j default)) _ _ _ (zK (hs.mem.del (.s (.s (.s (.s (.s .z))))))) (zK (hs.mem.del (.s (.s (.s .z)))))) rfl ?_
   refine goL 5 [] [132,129,24,23,22,21,20,19,2,7,9,60,61,62] .n ?_
   have hb_:(!((((zFS c C (L.getD j default):Nat):Int):Int) == ((zFS c C (L.getD j default):Nat):Int))) = false:=zGe rfl
   intro a w hs;rw [hb_] at hs;clear hb_
   revert a w hs
   refine go 5 [] [137,134,24,23,21,20,2,7,9,60,61,62] .n ?_
   have hb_:(!(((cDo c C (L.getD j default)).K.off:Int) == ((cDo c D (L.getD j default)).K.off))) = false:=zGr (congrArg (fun K:KS=>K.off) hrf71.K)
   intro a w hs;rw [hb_] at hs;clear hb_
   revert a w hs
   refine go 5 [] [142,139,24,21,2,7,9,60,61,62] .n ?_
   have hb_:(!(((cDo c C (L.getD j default)).K.j:Int) == ((cDo c D (L.getD j default)).K.j))) = false:=zGr (congrArg (fun K:KS=>K.j) hrf71.K)
   intro a w hs;rw [hb_] at hs;clear hb_
   revert a w hs
   refine go 5 [] [147,144,2,7,9,60,61,62] .n ?_
   have hb_:(!(((cDo c C (L.getD j default)).K.now:Int) == ((cDo c D (L.getD j default)).K.now))) = false:=zGr (congrArg (fun K:KS=>K.now) hrf71.K)
   intro a w hs;rw [hb_] at hs;clear hb_
   revert a w hs
   refine go 3 [] [150,149,2,7,9,60,61,62] .n ?_
   intro a w hs;refine zC hs rfl rfl rfl ?_
   refine zB (v:=nI ((cDo c C (L.getD j default)).σ.n 0)) hs (.c rfl .n) call17 (zAk hY65  _ (hs.mem.del (.s (.s (.s (.s (.s (.s .z)))))))) rfl ?_
   refine goL 1 [] [152,151,149,2,7,9,60,61,62] .n ?_
   intro a w hs;refine zC hs rfl rfl rfl ?_
   refine zB (v:=nI ((cDo c D (L.getD j default)).σ.n 0)) hs (.c rfl .n) call17 (zAk hY69  _ (hs.mem.del (.s (.s (.s (.s .z)))))) rfl ?_
   refine goL 1 [] [154,149,2,7,9,60,61,62] .n ?_
   have hb_:(!(((((cDo c C (L.getD j default)).σ.n 0:Nat):Int):Int) == (((cDo c D (L.getD j default)).σ.n 0:Nat):Int))) = false:=zGe hrf71.n0
   intro a w hs;rw [hb_] at hs;clear hb_
   revert a w hs
   refine go 3 [] [157,156,2,7,9,60,61,62] .n ?_
   intro a w hs;refine zC hs rfl rfl rfl ?_
   refine zG hs (.c rfl .n) call12 .n (zA6 hY65 _ (hs.mem.del (.s (.s (.s (.s (.s (.s .z)))))))) rfl ?_;clear hs w a;rintro v81 _ a w rfl hs
   refine zC hs rfl rfl rfl ?_
   refine zW hs rfl (zK (hs.mem.del .z)).isSl underlying40 rfl ?_
   refine goL 1 [] [160,159,156,2,7,9,60,61,62] .n ?_
   intro a w hs;refine zC hs rfl rfl rfl ?_
   refine zG hs (.c rfl .n) call12 .n (zA6 hY69 _ (hs.mem.del (.s (.s (.s (.s (.s .z))))))) rfl ?_;clear hs w a;rintro v82 _ a w rfl hs
   refine zC hs rfl rfl rfl ?_
   refine zW hs rfl (zK (hs.mem.del .z)).isSl underlying40 rfl ?_
   refine goL 1 [] [163,156,2,7,9,60,61,62] .n ?_
   have hb_:(!(((((cDo c C (L.getD j default)).σ.l.length:Nat):Int):Int) == (((cDo c D (L.getD j default)).σ.l.length:Nat):Int))) = false:=zGe (congrArg List.length hrf71.l).symm
   intro a w hs;rw [hb_] at hs;clear hb_
   revert a w hs
   refine go 4 [] [62,2,7,9,60,61] .n ⟨(by omega),?_⟩
   refine cl (·.drop (.c (.s (.s (.s (.s (.s (.s (.s .z))))))) (.c (.s (.s (.s (.s (.s .z))))) (.c (.s (.s (.s (.s .z)))) (.c (.s (.s (.s .z))) (.c (.s (.s .z)) (.c (.s .z) (.c .z .n)))))))) ?_
   refine cl (·.reorder (.c (.s .z) (.c .z .n))) ?_
   intro a w hs;refine ⟨_,?_,(j + 1),Y64,(cDo c C (L.getD j default)),Y68,(cDo c D (L.getD j default)),rfl,hs.sub (.c rfl (.c rfl (.c rfl (.c rfl (.c rfl (.c rfl .n)))))),by omega,hY65,hY69,(zB4 hk ⟨by omega,by omega⟩ hI1_3),(zB4 hk ⟨by omega,by omega⟩ hI1_4),(fun i=>(Nat.le_trans (zDn _ _ _ i) (Nat.succ_le_succ (hI1_5 i)))),(fun i=>Nat.le_trans (Nat.le_trans (zDn _ _ _ i) (Nat.succ_le_succ (hI1_6 i))) (by omega)),(Nat.le_trans (zB7 _ _ _) (Nat.succ_le_succ hI1_7)),hrf71⟩
   omega
  rw [c_73] at hs
  replace c_73:=zAD c_73
  revert a w hs
  refine go 16 [] [114,18,17,16,15,2,7,9,60,61,62] .n ?_
  intro a w hs;refine zB (v:=.tuple #[zI ((cDo c C (L.getD j default)).K.off),zI ((cDo c C (L.getD j default)).K.j),zI ((cDo c C (L.getD j default)).K.now)]) hs (.c rfl .n) call19 (zAl hY65  _ (hs.mem.del (.s (.s (.s (.s (.s (.s .z)))))))) rfl ?_
  refine goL 8 [] [120,21,20,19,18,17,16,15,2,7,9,60,61,62] .n ?_
  intro a w hs;refine zB (v:=.tuple #[zI ((cDo c D (L.getD j default)).K.off),zI ((cDo c D (L.getD j default)).K.j),zI ((cDo c D (L.getD j default)).K.now)]) hs (.c rfl .n) call19 (zAl hY69  _ (hs.mem.del (.s (.s .z)))) rfl ?_
  refine goL 9 [0,1] [126,125,24,23,22,21,20,19,18,16,2,7,9,60,61,62] (.c (.s (.s (.s (.s .z)))) (.c .z .n)) ⟨rfl,rfl,?_⟩
  intro a w hs;refine zB (v:=.bool true) hs (.c rfl (.c rfl .n)) call20 (zCN (zIx c C (L.getD j default)) _ _ _ (zK (hs.mem.del (.s (.s (.s (.s (.s .z))))))) (zK (hs.mem.del (.s (.s .z))))) rfl ?_
  refine goL 5 [] [132,129,24,23,22,21,20,19,2,7,9,60,61,62] .n ?_
  have hb_:(!((((zFS c C (L.getD j default):Nat):Int):Int) == ((zFS c C (L.getD j default):Nat):Int))) = false:=zGe rfl
  intro a w hs;rw [hb_] at hs;clear hb_
  revert a w hs
  refine go 5 [] [137,134,24,23,21,20,2,7,9,60,61,62] .n ?_
  have hb_:(!(((cDo c C (L.getD j default)).K.off:Int) == ((cDo c D (L.getD j default)).K.off))) = false:=zGr (congrArg (fun K:KS=>K.off) hrf71.K)
  intro a w hs;rw [hb_] at hs;clear hb_
  revert a w hs
  refine go 5 [] [142,139,24,21,2,7,9,60,61,62] .n ?_
  have hb_:(!(((cDo c C (L.getD j default)).K.j:Int) == ((cDo c D (L.getD j default)).K.j))) = false:=zGr (congrArg (fun K:KS=>K.j) hrf71.K)
  intro a w hs;rw [hb_] at hs;clear hb_
  revert a w hs
  refine go 5 [] [147,144,2,7,9,60,61,62] .n ?_
  have hb_:(!(((cDo c C (L.getD j default)).K.now:Int) == ((cDo c D (L.getD j default)).K.now))) = false:=zGr (congrArg (fun K:KS=>K.now) hrf71.K)
  intro a w hs;rw [hb_] at hs;clear hb_
  revert a w hs
  refine go 3 [] [150,149,2,7,9,60,61,62] .n ?_
  intro a w hs;refine zC hs rfl rfl rfl ?_
  refine zB (v:=nI ((cDo c C (L.getD j default)).σ.n 0)) hs (.c rfl .n) call17 (zAk hY65  _ (hs.mem.del (.s (.s (.s (.s (.s (.s .z)))))))) rfl ?_
  refine goL 1 [] [152,151,149,2,7,9,60,61,62] .n ?_
  intro a w hs;refine zC hs rfl rfl rfl ?_
  refine zB (v:=nI ((cDo c D (L.getD j default)).σ.n 0)) hs (.c rfl .n) call17 (zAk hY69  _ (hs.mem.del (.s (.s (.s .z))))) rfl ?_
  refine goL 1 [] [154,149,2,7,9,60,61,62] .n ?_
  have hb_:(!(((((cDo c C (L.getD j default)).σ.n 0:Nat):Int):Int) == (((cDo c D (L.getD j default)).σ.n 0:Nat):Int))) = false:=zGe hrf71.n0
  intro a w hs;rw [hb_] at hs;clear hb_
  revert a w hs
  refine go 3 [] [157,156,2,7,9,60,61,62] .n ?_
  intro a w hs;refine zC hs rfl rfl rfl ?_
  refine zG hs (.c rfl .n) call12 .n (zA6 hY65 _ (hs.mem.del (.s (.s (.s (.s (.s (.s .z)))))))) rfl ?_;clear hs w a;rintro v83 _ a w rfl hs
  refine zC hs rfl rfl rfl ?_
  refine zW hs rfl (zK (hs.mem.del .z)).isSl underlying40 rfl ?_
  refine goL 1 [] [160,159,156,2,7,9,60,61,62] .n ?_
  intro a w hs;refine zC hs rfl rfl rfl ?_
  refine zG hs (.c rfl .n) call12 .n (zA6 hY69 _ (hs.mem.del (.s (.s (.s (.s .z)))))) rfl ?_;clear hs w a;rintro v84 _ a w rfl hs
  refine zC hs rfl rfl rfl ?_
  refine zW hs rfl (zK (hs.mem.del .z)).isSl underlying40 rfl ?_
  refine goL 1 [] [163,156,2,7,9,60,61,62] .n ?_
  have hb_:(!(((((cDo c C (L.getD j default)).σ.l.length:Nat):Int):Int) == (((cDo c D (L.getD j default)).σ.l.length:Nat):Int))) = false:=zGe (congrArg List.length hrf71.l).symm
  intro a w hs;rw [hb_] at hs;clear hb_
  revert a w hs
  refine go 4 [] [62,2,7,9,60,61] .n ⟨(by omega),?_⟩
  refine cl (·.drop (.c (.s (.s (.s (.s (.s (.s (.s .z))))))) (.c (.s (.s (.s (.s (.s (.s .z)))))) (.c (.s (.s (.s (.s .z)))) (.c (.s (.s (.s .z))) (.c (.s (.s .z)) (.c (.s .z) (.c .z .n)))))))) ?_
  refine cl (·.reorder (.c (.s .z) (.c .z .n))) ?_
  intro a w hs;refine ⟨_,?_,(j + 1),Y64,(cDo c C (L.getD j default)),Y68,(cDo c D (L.getD j default)),rfl,hs.sub (.c rfl (.c rfl (.c rfl (.c rfl (.c rfl (.c rfl .n)))))),by omega,hY65,hY69,(zB4 hk ⟨by omega,by omega⟩ hI1_3),(zB4 hk ⟨by omega,by omega⟩ hI1_4),(fun i=>(Nat.le_trans (zDn _ _ _ i) (Nat.succ_le_succ (hI1_5 i)))),(fun i=>Nat.le_trans (Nat.le_trans (zDn _ _ _ i) (Nat.succ_le_succ (hI1_6 i))) (by omega)),(Nat.le_trans (zB7 _ _ _) (Nat.succ_le_succ hI1_7)),hrf71⟩
  omega
 refine go 0 [] [] .n ?_
 intro a w hs;refine zB (v:=.bool (true)) hs .n call10 (zE1 _) rfl ?_
 refine goL 1 [] [6] .n ?_
 refine cl (·.drop (.c (.s .z) (.c .z .n))) ?_
 intro a w hs;exact fin hs rfl rfl ⟨rfl,rfl⟩
theorem zHS (c:zAF) (u:Value) (L:List EvR) (vb:Value) (mb:Nat) (bb:List zP) (w0:World) (hu:Rd w0 [] u 3 L.length (L.flatMap evV)) (hL:∀ x ∈ L,x.ok w0) (hbb:Rd w0 [] vb 1 mb (zD bb)):Calls Tryz.prog 5 #[.agg #[zI c.ring,zI c.window,zI c.base,zI c.gain,zI c.least,zI c.most,zI c.slack,zI c.num,zI c.den,zI c.extra,.bool (c.curve)],u,vb] w0 (zAf w0 (.bool true)):=by
 by_cases hk:zCj c = 0
 · exact zGJ c u L vb mb bb w0 hu hL hbb hk
 · exact zGx c u L vb mb bb w0 hu hL hbb hk
end Go.Proofs.YtemnjodhidlfpaaGreat
