import Derived.Test.YtemnjodhidlfpaaGreatQG8
import Derived.Test.YtemnjodhidlfpaaGreatQG23
import Derived.Test.YtemnjodhidlfpaaGreatQSxBasB
/- Walks of ClientShows: what each function does, over the program of this seat. Printed by a program of this session. -/
namespace Go.Proofs.YtemnjodhidlfpaaGreat
open Tryz
open Go Go.Sx Go.RowKit
set_option linter.unusedVariables false
set_option linter.unusedSimpArgs false
set_option maxRecDepth 4000
set_option maxHeartbeats 1000000

theorem zHb (c:zAL) (u:Value) (L:List EvR) (w0:World) (hu:Rd w0 [] u 3 L.length (L.flatMap evV)) (hL:∀ x ∈ L,x.ok w0) (hk:zCm c ≠ 0):Calls Tryz.prog 3 #[.agg #[zI c.ring,zI c.window,zI c.base,zI c.gain,zI c.least,zI c.most,zI c.slack,zI c.num,zI c.den,zI c.extra,.bool (c.curve)],u] w0 (zAj w0 (.bool true)):=by
 have hue:=hu.le
 simp only [maxLen] at hue
 refine zG (F0:=[(0,.agg #[zI c.ring,zI c.window,zI c.base,zI c.gain,zI c.least,zI c.most,zI c.slack,zI c.num,zI c.den,zI c.extra,.bool (c.curve)]),(1,u)]) func3 rfl rfl rfl (.c (.c .n)) (Mem.nil _) ?_
 refine go 3 [0,0] [23,2,1] .n (fun g1=>⟨rfl,?_⟩)
 intro a w hs;refine zB (v:=.tuple #[.pointer (none),nI (zCm c)]) hs (.c rfl .n) call8 (zUI c hk _) rfl ?_
 refine goL 7 [] [28,5,2,1] .n ?_
 have hb_:(!((((zCm c:Nat):Int):Int) == 0)) = true:=by simpa using hk
 intro a w hs;rw [hb_] at hs;clear hb_
 revert a w hs
 refine go 4 [] [32,5,2,1] .n ?_
 refine goF 5 5 [] [37,5,2,1] .n ?_
 refine go 1 [] [] .n ?_
 intro a w hs;refine zB (v:=.bool (true)) hs .n call10 (zGc _) rfl ?_
 refine goL 1 [] [4] .n ?_
 refine cl (·.drop (.c .z .n)) ?_
 intro a w hs;exact fin hs rfl rfl ⟨rfl,rfl⟩
theorem zGu (c:zAL) (u:Value) (L:List EvR) (w0:World) (hu:Rd w0 [] u 3 L.length (L.flatMap evV)) (hL:∀ x ∈ L,x.ok w0) (hk:zCm c = 0):Calls Tryz.prog 3 #[.agg #[zI c.ring,zI c.window,zI c.base,zI c.gain,zI c.least,zI c.most,zI c.slack,zI c.num,zI c.den,zI c.extra,.bool (c.curve)],u] w0 (zAj w0 (.bool true)):=by
 have hue:=hu.le
 simp only [maxLen] at hue
 have hkr:=zLQ hk
 refine zG (F0:=[(0,.agg #[zI c.ring,zI c.window,zI c.base,zI c.gain,zI c.least,zI c.most,zI c.slack,zI c.num,zI c.den,zI c.extra,.bool (c.curve)]),(1,u)]) func3 rfl rfl rfl (.c (.c .n)) (Mem.nil _) ?_
 refine go 3 [0,0] [23,2,1] .n (fun g1=>⟨rfl,?_⟩)
 intro a w hs;refine zM hs (.c rfl .n) call8 .n (zR1 c hk _) rfl ?_;clear hs w a;rintro _ _ a w ⟨g2,Y3,rfl,rfl,hY4⟩ hs
 revert a w hs
 refine goL 13 [] [34,33,5,2,1] .n ?_
 intro a w hs;refine zF hs rfl rfl rfl ?_
 refine zM hs (.c rfl .n) call9 .n (zOd _ L _ (hs.rd0 hu) (fun x hx=>⟨(hL x hx).k,(hL x hx).at_,hs.rd0 (hL x hx).rd⟩)) rfl ?_;clear hs w a;rintro _ _ a w ⟨gz5,rfl,hg6,rfl⟩ hs
 revert a w hs
 refine goL 2 [] [37,5,2,1] .n ?_
 refine ifG rfl (fun c_7=>?_) (fun c_7=>?_)
 ·
  refine go 0 [] [] .n ?_
  intro a w hs;refine zB (v:=.bool (true)) hs .n call10 (zGc _) rfl ?_
  refine goL 1 [] [4] .n ?_
  refine cl (·.drop (.c (.s .z) (.c .z .n))) ?_
  intro a w hs;exact fin hs rfl rfl ⟨rfl,rfl⟩
 have hL60:=hg6 (by assumption)
 refine go 3 [] [39,8,7,5,2] .n ?_
 intro a w hs;refine zAD hs rfl (hs.rd0 hu).isSl underlying24 rfl ?_
 refine goL 1 [] [41,40,39,8,7,5,2] .n ?_
 intro a w hs;refine zCL (fun mm_ a w=>∃ j:Nat,∃ Y:HA,∃ C:CS,∃ bg:Bool,∃ last:Int,mm_ = L.length - j ∧ St 142 [(2,pt g1 0),(5,pt g2 0),(7,.bool (bg)),(8,zI last),(39,u),(40,nI L.length),(41,nI j)] w0 [] [Y,blk g1 [zI c.ring,zI c.window,zI c.base,zI c.gain,zI c.least,zI c.most,zI c.slack,zI c.num,zI c.den,zI c.extra,.bool (c.curve)] 23] a w ∧ j ≤ L.length ∧ Cli g2 c C Y ∧ C.ok c ∧ (∀ i,C.σ.n i ≤ j) ∧ C.fr ≤ j ∧ ShI C.K bg last ∧ R64 last) ⟨0,Y3,(C0 c),false,0,rfl,hs.sub (.c rfl (.c rfl (.c rfl (.c rfl (.c rfl (.c rfl (.c rfl .n))))))),by omega,hY4,(zZu hk),(fun i=>Nat.le_refl 0),(Nat.le_refl 0),(fun h=>by cases h),⟨by decide,by decide⟩⟩ ?_
 clear hs w a;rintro mm_ a w ⟨j,Y,C,bg,last,rfl,hs,hI1_0,hI1_1,hI1_2,hI1_3,hI1_4,hI1_5,hI1_6⟩
 revert a w hs
 refine go 1 [] [42,2,5,7,8,39,40,41] .n ?_
 refine ifG rfl (fun c_8=>?_) (fun c_8=>?_)
 ·
  refine go 0 [] [2,5,7,8,39,40,41] .n ?_
  intro a w hs;refine zBL (j:=j) hs rfl rfl (hs.rd0 hu) rfl (by omega) underlying24 sizeOf33 rfl ?_
  intro a w hs;refine zBA (cs:=evV (L.getD j default)) hs rfl (hs.rd0 hu) (zAT zJK L j (by omega)) (by rw [zAN zJK];omega) (by omega) isAgg33 sizeOf33 rfl ?_
  have hxo:=hL _ (zPK (l:=L) (i:=j) (by omega));have hxk:=hxo.k;have hxa:=hxo.at_
  refine goL 4 [50,0] [47,46,10,2,5,7,8,39,40,41] .n (fun g9=>⟨rfl,(zJ rfl (zJ rfl (zJ (hL _ (zPK (by omega))).rd.isSl.one zAb))),rfl,?_⟩)
  intro a w hs;refine zM hs (.c rfl (.c rfl .n)) call11 (.c (.s .z) .n) (zZG hI1_1 hk hI1_2 (fun i=>Nat.le_trans (hI1_3 i) (by omega)) (by omega) (L.getD j default) ⟨by omega,by omega⟩ _ (hs.mem.del (.s .z)) (hs.mem.rd1 (hL _ (zPK (by omega))).rd (.c (.s .z) .n)) ⟨by omega,by omega⟩) rfl ?_;clear hs w a;rintro _ _ a w ⟨v12,rfl,Y10,rfl,hY11⟩ hs
  revert a w hs
  refine goL 4 [] [11,50,49,10,2,5,7,8,39,40,41] .n (fun g13=>?_)
  intro a w hs;refine zAe hs rfl rfl .z (.z (.c (.c (.c .n)))) (zJ rfl (zJ rfl (zJ (zL (hs.mem.del (.s .z))).isSl.one zAb))) sizeOf36 rfl ?_
  refine goL 5 [0] [54,11,2,5,7,8,39,40,41] (.c (.s (.s (.s .z))) .n) ⟨rfl,?_⟩
  intro a w hs;refine zW (b:=!(((L.getD j default).k:Int) == 1)) (fun c_14=>?_) (fun c_14=>?_)
  ·
   rw [c_14] at hs
   replace c_14:=zFV c_14
   replace c_14:=zAQ c_14
   revert a w hs
   refine go 7 [0] [60,11,2,5,7,8,39,40,41] (.c (.s .z) .n) ⟨rfl,?_⟩
   have hrd0:(zH5 c C (L.getD j default)).ready = false:=by first | assumption | (rw [zQB (by omega:(L.getD j default).k ≠ 1)])
   have hnr:=zMp hrd0
   intro a w hs;refine zAD hs rfl (zL (hs.mem.del (.s (.s .z)))).isSl underlying34 rfl ?_
   refine goL 1 [] [62,11,2,5,7,8,39,40,41] .n ?_
   have hb_:(!(((((zH5 c C (L.getD j default)).l.length:Nat):Int):Int) == 0)) = false:=by rw [hnr];rfl
   intro a w hs;rw [hb_] at hs;clear hb_
   revert a w hs
   refine go 3 [0] [65,63,2,5,7,8,39,40,41] (.c .z .n) ⟨rfl,?_⟩
   have hb_:((zH5 c C (L.getD j default)).ready) = false:=hrd0
   intro a w hs;rw [hb_] at hs;clear hb_
   revert a w hs
   refine goF 1 1 [] [66,2,5,7,8,39,40,41] .n ?_
   refine go 3 [] [41,2,5,7,8,39,40] .n ⟨(by omega),?_⟩
   refine cl (·.drop (.c (.s (.s .z)) (.c (.s .z) (.c .z .n)))) ?_
   intro a w hs;refine ⟨_,?_,(j + 1),Y10,(cDo c C (L.getD j default)),bg,last,rfl,hs.sub (.c rfl (.c rfl (.c rfl (.c rfl (.c rfl (.c rfl (.c rfl .n))))))),by omega,hY11,(zVQ hk ⟨by omega,by omega⟩ hI1_2),(fun i=>Nat.le_trans (zYq _ _ _ i) (Nat.succ_le_succ (hI1_3 i))),(Nat.le_trans (zMg _ _ _) (Nat.succ_le_succ hI1_4)),(hI1_5.other hrd0),hI1_6⟩
   omega
  rw [c_14] at hs
  replace c_14:=zFM c_14
  replace c_14:=eq_of_beq c_14
  revert a w hs
  refine go 4 [0] [58,11,2,5,7,8,39,40,41] (.c (.s .z) .n) ⟨rfl,?_⟩
  refine ifG rfl (fun c_15=>?_) (fun c_15=>?_)
  ·
   refine go 2 [0] [60,11,2,5,7,8,39,40,41] (.c .z .n) ⟨rfl,?_⟩
   have hrd0:(zH5 c C (L.getD j default)).ready = false:=by first | assumption | (rw [zQB (by omega:(L.getD j default).k ≠ 1)])
   have hnr:=zMp hrd0
   intro a w hs;refine zAD hs rfl (zL (hs.mem.del (.s (.s .z)))).isSl underlying34 rfl ?_
   refine goL 1 [] [62,11,2,5,7,8,39,40,41] .n ?_
   have hb_:(!(((((zH5 c C (L.getD j default)).l.length:Nat):Int):Int) == 0)) = false:=by rw [hnr];rfl
   intro a w hs;rw [hb_] at hs;clear hb_
   revert a w hs
   refine go 3 [0] [65,63,2,5,7,8,39,40,41] (.c .z .n) ⟨rfl,?_⟩
   have hb_:((zH5 c C (L.getD j default)).ready) = false:=hrd0
   intro a w hs;rw [hb_] at hs;clear hb_
   revert a w hs
   refine goF 1 1 [] [66,2,5,7,8,39,40,41] .n ?_
   refine go 3 [] [41,2,5,7,8,39,40] .n ⟨(by omega),?_⟩
   refine cl (·.drop (.c (.s (.s .z)) (.c (.s .z) (.c .z .n)))) ?_
   intro a w hs;refine ⟨_,?_,(j + 1),Y10,(cDo c C (L.getD j default)),bg,last,rfl,hs.sub (.c rfl (.c rfl (.c rfl (.c rfl (.c rfl (.c rfl (.c rfl .n))))))),by omega,hY11,(zVQ hk ⟨by omega,by omega⟩ hI1_2),(fun i=>Nat.le_trans (zYq _ _ _ i) (Nat.succ_le_succ (hI1_3 i))),(Nat.le_trans (zMg _ _ _) (Nat.succ_le_succ hI1_4)),(hI1_5.other hrd0),hI1_6⟩
   omega
  refine go 1 [] [67,11,2,5,8,39,40,41] .n ?_
  have hk1:(L.getD j default).k = 1:=by omega
  obtain ⟨hq1,hsh⟩:=zYO hk1 (by assumption:(zH5 c C (L.getD j default)).ready = true)
  have hcd:cDo c C (L.getD j default) = (zLf c C (L.getD j default).at_):=(if_neg (by omega)).trans (if_pos hk1)
  have htr:R64 (kTm c C.K (L.getD j default).at_):=zZY ⟨by omega,by omega⟩ hI1_2.k
  intro a w hs;rw [hcd] at hY11
  rw [hsh] at hs
  have hst:=(Cli.oks hY11).srt;have hol:=(Cli.oks hY11).le;have hom:=hkr.2.2;have hwf:=hI1_2.wf;have hpl:=zOW (c:=c) (l:=C.σ.l) (t:=(kTm c C.K (L.getD j default).at_))
  replace hst:srt C.σ.l:=hst;replace hol:C.σ.l.length ≤ c.keep:=hol
  revert a w hs
  refine go 1 [] [68,11,2,5,8,39,40,41] .n ?_
  intro a w hs;refine zW (b:=bg) (fun c_16=>?_) (fun c_16=>?_)
  ·
   rw [c_16] at hs
   revert a w hs
   refine go 4 [0] [72,68,11,2,5,39,40,41] (.c .z .n) ⟨rfl,?_⟩
   have hb_:(decide ((kTm c C.K (L.getD j default).at_) < last)) = false:=decide_eq_false (hI1_5.ge hq1 (by assumption))
   intro a w hs;rw [hb_] at hs;clear hb_
   revert a w hs
   refine go 2 [] [11,2,5,39,40,41] .n ?_
   intro a w hs
   refine zS [.p [] [],.p [0] [0],.p [] [],.p [1] []] [2,3] hs .n (.c .z .n) (by kernel_rfl) ⟨rfl,⟨rfl,by kernel_rfl,fun _=>rfl,rfl,rfl,trivial⟩,fun _=>rfl,?_⟩
   refine goE 2 [] [76,13,8,7,11,2,5,39,40,41] .n ?_
   intro a w hs;refine zM hs (.c rfl .n) call12 .n (zMu hY11 _ (hs.mem.del (.s (.s (.s .z))))) rfl ?_;clear hs w a;rintro v18 _ a w rfl hs
   rw [show (zLf c C (L.getD j default).at_).σ = C.σ from rfl] at hs
   refine zAD hs rfl (zL (hs.mem.del .z)).isSl underlying40 rfl ?_
   refine goL 1 [] [79,78,77,13,8,7,11,2,5,39,40,41] .n ?_
   refine cl (·.addNil 44 3) ?_
   refine cl (·.rerow .z (m':=([]:List RI).length) (xs':=(([]:List RI).flatMap snV)) (rfl) (rfl)) ?_
   refine cl (·.addRws 142) ?_
   refine cl (·.reorder (.c (.s .z) (.c .z (.c .z (.c .z (.c .z (.c .z (.c .z (.c .z .n))))))))) ?_
   intro a w hs;refine zCL (fun mm_ a w=>∃ i:Nat,∃ q:Value,∃ K:List RI,mm_ = C.σ.l.length - i ∧ St 142 [(2,pt g1 0),(5,pt g2 0),(7,.bool (true)),(8,zI (kTm c C.K (L.getD j default).at_)),(11,pt g13 0),(13,q),(39,u),(40,nI L.length),(41,nI j),(77,v18),(78,nI C.σ.l.length),(79,nI i)] w0 [] [row q 44 3 K.length (K.flatMap snV),rws 142 K,row v18 2 1 C.σ.l.length (iV (C.σ.l.map zU.t)),blk g13 [.bool (true),zI (kTm c C.K (L.getD j default).at_),v12] 36,blk g9 [zI ((L.getD j default).k),zI ((L.getD j default).at_),(L.getD j default).v] 33,row v12 52 6 ((zD c C.σ.l (kTm c C.K (L.getD j default).at_)).1.length) ((zD c C.σ.l (kTm c C.K (L.getD j default).at_)).1.flatMap zA0),Y10,blk g1 [zI c.ring,zI c.window,zI c.base,zI c.gain,zI c.least,zI c.most,zI c.slack,zI c.num,zI c.den,zI c.extra,.bool (c.curve)] 23] a w ∧ i ≤ C.σ.l.length ∧ sns K = C.σ.l.take i) ⟨0,.slice none 0 0,[],rfl,hs.sub (.c rfl (.c rfl (.c rfl (.c rfl (.c rfl (.c rfl (.c rfl (.c rfl (.c rfl (.c rfl (.c rfl (.c rfl .n)))))))))))),by omega,rfl⟩ ?_
   clear hs w a;rintro mm_ a w ⟨i,q,K,rfl,hs,hI2_0,hI2_1⟩
   revert a w hs
   refine go 1 [] [80,2,5,7,8,11,13,39,40,41,77,78,79] .n ?_
   refine ifG rfl (fun c_19=>?_) (fun c_19=>?_)
   ·
    refine go 0 [] [2,5,7,8,11,13,39,40,41,77,78,79] .n ?_
    intro a w hs;refine zAy (j:=i) hs rfl rfl (zL (hs.mem.del (.s (.s .z)))) rfl (by omega) underlying40 sizeOf2 rfl ?_
    intro a w hs;refine zBS (u:=zI ((C.σ.l.map zU.t).getD i 0)) hs rfl (zL (hs.mem.del (.s (.s .z)))) (zIJ (C.σ.l.map zU.t) i (by rw [List.length_map];omega)) isAgg2 rfl ?_
    have hLl:K.length = i:=by rw [← zAH K,hI2_1,List.length_take];omega
    refine goL 3 [] [85,84,2,5,7,8,11,13,39,40,41,77,78,79] .n ?_
    intro a w hs;refine zM hs (.c rfl (.c rfl .n)) call13 .n (zM9 hY11 ((C.σ.l.map zU.t).getD i 0) _ (hs.mem.del (.s (.s (.s (.s (.s (.s .z)))))))) rfl ?_;clear hs w a;rintro _ _ a w ⟨v20,rfl,rfl⟩ hs
    rw [show (zLf c C (L.getD j default).at_).σ = C.σ from rfl] at hs
    revert a w hs
    refine goL 3 [] [88,87,2,5,7,8,11,13,39,40,41,77,78,79] .n ?_
    have hb_:(zDU C.σ.l ((C.σ.l.map zU.t).getD i 0)) = true:=by rw [zMU (by omega)];exact zII (by omega)
    intro a w hs;rw [hb_] at hs;clear hb_
    revert a w hs
    refine go 1 [] [16,88,87,2,5,7,8,11,13,39,40,41,77,78,79] .n (fun g21=>?_)
    intro a w hs;refine zAe hs rfl rfl .z (.z (.c (.c (.c .n)))) (zJ rfl (zJ rfl (zJ (zL (hs.mem.del (.s .z))).isSl.one zAb))) sizeOf44 rfl ?_
    refine goL 7 [0] [93,91,2,5,7,8,11,39,40,41,77,78,79] (.c .z .n) ⟨rfl,fun g22=>?_⟩
    intro a w hs;refine zBF (size:=3) (bytes:=40) hs rfl rfl (.s (.s (.s .z))) (zAJ (m:=1) (size:=3) (hs.mem.del .z) rfl (by decide)) (zJ rfl (zJ rfl (zJ (zL (hs.mem.del (.s (.s .z)))).isSl.one zAb))) underlying39 (i:=Tryz.t44) rfl rfl rfl rfl rfl (by decide) (by omega) (by simp only [maxLen];omega) rfl ?_;intro v23
    refine cl (·.drop (.c (.s .z) .n)) ?_
    refine goL 3 [] [79,13,2,5,7,8,11,39,40,41,77,78] .n ⟨(by omega),?_⟩
    intro a w hs;replace hs:=hs.rerow .z (m':=(K ++ [(⟨(zBo C.σ.l ((C.σ.l.map zU.t).getD i 0)).t,(zBo C.σ.l ((C.σ.l.map zU.t).getD i 0)).tm,(zBo C.σ.l ((C.σ.l.map zU.t).getD i 0)).l,v20⟩ : RI)]).length) (xs':=((K ++ [(⟨(zBo C.σ.l ((C.σ.l.map zU.t).getD i 0)).t,(zBo C.σ.l ((C.σ.l.map zU.t).getD i 0)).tm,(zBo C.σ.l ((C.σ.l.map zU.t).getD i 0)).l,v20⟩ : RI)]).flatMap snV)) (by rw [List.length_append];rfl) (by rw [List.flatMap_append];rfl)
    replace hs:=hs.rwsSnoc (x:=(⟨(zBo C.σ.l ((C.σ.l.map zU.t).getD i 0)).t,(zBo C.σ.l ((C.σ.l.map zU.t).getD i 0)).tm,(zBo C.σ.l ((C.σ.l.map zU.t).getD i 0)).l,v20⟩ : RI)) (.c (.s (.s (.s .z))) (.c (.s (.s .z)) .n))
    replace hs:=hs.drop (.c (.s (.s .z)) .n)
    replace hs:=hs.reorder (.c (.s .z) (.c .z (.c .z (.c .z (.c .z (.c .z (.c .z (.c .z .n))))))))
    refine ⟨_,?_,(i + 1),v23,(K ++ [(⟨(zBo C.σ.l ((C.σ.l.map zU.t).getD i 0)).t,(zBo C.σ.l ((C.σ.l.map zU.t).getD i 0)).tm,(zBo C.σ.l ((C.σ.l.map zU.t).getD i 0)).l,v20⟩ : RI)]),rfl,hs.sub (.c rfl (.c rfl (.c rfl (.c rfl (.c rfl (.c rfl (.c rfl (.c rfl (.c rfl (.c rfl (.c rfl (.c rfl .n)))))))))))),by omega,zMw hst hI2_1 (by omega)⟩
    omega
   refine go 4 [0,1] [100,99,97,2,5,7,8,11,39,40,41] (.c (.s (.s (.s (.s (.s (.s (.s .z))))))) (.c (.s (.s (.s .z))) .n)) ⟨rfl,rfl,?_⟩
   intro a w hs;refine zM hs (.c rfl (.c rfl (.c rfl .n))) call14 (.c (.s (.s .z)) (.c (.s (.s .z)) .n)) (zJb c K q C.σ.l (kTm c C.K (L.getD j default).at_) htr _ (hI2_1.trans (List.take_of_length_le (by omega))) (Cli.oks (C:=(zLf c C (L.getD j default).at_)) hY11) hwf _ (hs.mem.allX (.c (.s (.s .z)) (.c (.s (.s .z)) .n)))) rfl ?_;clear hs w a;rintro _ _ a w ⟨v24,rfl,rfl⟩ hs
   revert a w hs
   refine goL 6 [] [104,18,2,5,7,8,11,39,40,41] .n ?_
   intro a w hs;refine zAD hs rfl (zL (hs.mem.del .z)).isSl underlying34 rfl ?_
   refine goL 2 [0] [107,105,18,2,5,7,8,11,39,40,41] (.c (.s (.s .z)) .n) ⟨rfl,?_⟩
   intro a w hs;refine zAD hs rfl (zL (hs.mem.del (.s (.s (.s (.s (.s .z))))))).isSl underlying34 rfl ?_
   refine zOk 1 1 [] [109,18,2,5,7,8,11,39,40,41] .n ?_
   have hb_:(!(((((zD c C.σ.l (kTm c C.K (L.getD j default).at_)).1.length:Nat):Int):Int) == (((zD c C.σ.l (kTm c C.K (L.getD j default).at_)).1.length:Nat):Int))) = false:=za9 rfl
   intro a w hs;rw [hb_] at hs;clear hb_
   revert a w hs
   refine go 2 [] [110,18,2,5,7,8,11,39,40,41] .n ?_
   intro a w hs;refine zAD hs rfl (zL (hs.mem.del (.s .z))).isSl underlying34 rfl ?_
   refine goL 1 [] [112,111,110,18,2,5,7,8,11,39,40,41] .n ?_
   intro a w hs;refine zCL (fun mm_ a w=>∃ e:Nat,mm_ = (zD c C.σ.l (kTm c C.K (L.getD j default).at_)).1.length - e ∧ St 142 [(2,pt g1 0),(5,pt g2 0),(7,.bool (true)),(8,zI (kTm c C.K (L.getD j default).at_)),(11,pt g13 0),(18,v24),(39,u),(40,nI L.length),(41,nI j),(110,v24),(111,nI ((zD c C.σ.l (kTm c C.K (L.getD j default).at_)).1.length)),(112,nI e)] w0 [] [blk g13 [.bool (true),zI (kTm c C.K (L.getD j default).at_),v12] 36,row v24 52 6 ((zD c C.σ.l (kTm c C.K (L.getD j default).at_)).1.length) ((zD c C.σ.l (kTm c C.K (L.getD j default).at_)).1.flatMap zA0),blk g1 [zI c.ring,zI c.window,zI c.base,zI c.gain,zI c.least,zI c.most,zI c.slack,zI c.num,zI c.den,zI c.extra,.bool (c.curve)] 23,row v18 2 1 C.σ.l.length (iV (C.σ.l.map zU.t)),blk g9 [zI ((L.getD j default).k),zI ((L.getD j default).at_),(L.getD j default).v] 33,row v12 52 6 ((zD c C.σ.l (kTm c C.K (L.getD j default).at_)).1.length) ((zD c C.σ.l (kTm c C.K (L.getD j default).at_)).1.flatMap zA0),Y10] a w ∧ e ≤ (zD c C.σ.l (kTm c C.K (L.getD j default).at_)).1.length) ⟨0,rfl,hs.sub (.c rfl (.c rfl (.c rfl (.c rfl (.c rfl (.c rfl (.c rfl (.c rfl (.c rfl (.c rfl (.c rfl (.c rfl .n)))))))))))),by omega⟩ ?_
   clear hs w a;rintro mm_ a w ⟨e,rfl,hs,hI3_0⟩
   revert a w hs
   refine go 1 [] [113,2,5,7,8,11,18,39,40,41,110,111,112] .n ?_
   refine ifG rfl (fun c_25=>?_) (fun c_25=>?_)
   ·
    refine go 1 [] [114,2,5,7,8,11,18,39,40,41,110,111,112] .n ?_
    intro a w hs;refine zBL (j:=e) hs rfl rfl (zL (hs.mem.del (.s .z))) rfl (by omega) underlying34 sizeOf52 rfl ?_
    intro a w hs;refine zBA (cs:=zA0 ((zD c C.σ.l (kTm c C.K (L.getD j default).at_)).1.getD e default)) hs rfl (zL (hs.mem.del (.s .z))) (zAT zBE (zD c C.σ.l (kTm c C.K (L.getD j default).at_)).1 e (by omega)) (by rw [zAN zBE];omega) (by omega) isAgg52 sizeOf52 rfl ?_
    refine goL 3 [0] [20,21,2,5,7,8,11,18,39,40,41,110,111,112] .n (fun g26=>⟨rfl,?_⟩)
    by_cases ce:0 < e
    ·
     intro a w hs
     refine zS [.p [] [],.p [0] [0],.p [] [],.v [2,1] (.pointer (some (adr v12 (e * 6)))),.v [3] (.agg #[zI (((zD c C.σ.l (kTm c C.K (L.getD j default).at_)).1.getD e default).id),zI (((zD c C.σ.l (kTm c C.K (L.getD j default).at_)).1.getD e default).p0),zI (((zD c C.σ.l (kTm c C.K (L.getD j default).at_)).1.getD e default).p1),zI (((zD c C.σ.l (kTm c C.K (L.getD j default).at_)).1.getD e default).p2),.int .u16 (((((zD c C.σ.l (kTm c C.K (L.getD j default).at_)).1.getD e default).a).toNat:Nat):Int),zI (((zD c C.σ.l (kTm c C.K (L.getD j default).at_)).1.getD e default).m)]),.p [] [1],.v [5,4] (.bool (false)),.p [6] [],.p [7] [],.v [8,7] (.bool (true)),.p [9,7] [],.p [10] [],.p [11,10] [1],.p [10] [],.p [10] [],.p [14,10] [],.v [15,13,10] (.pointer (some (adr v24 (((((e:Nat):Int) - 1).toNat) * 6)))),.v [16,10] (.pointer (some (adr v24 (((((e:Nat):Int) - 1).toNat) * 6 + 0)))),.v [17,10] (zI (((zD c C.σ.l (kTm c C.K (L.getD j default).at_)).1.getD ((((e:Nat):Int) - 1).toNat) default).id)),.v [18,12,10] (.bool (false)),.p [19,10,7] [],.p [20,7] []] [21] hs .n (.c (.s .z) (.c .z .n)) (by kernel_rfl) ⟨rfl,fun _ _ _ _ hm hs K=>zBL (j:=e) hs rfl rfl (zL (hm.del (.s (.s (.s (.s (.s (.s .z)))))))) rfl (by omega) underlying34 sizeOf52 rfl (vk K),fun _ _ _ _ hm hs K=>zBA (cs:=zA0 ((zD c C.σ.l (kTm c C.K (L.getD j default).at_)).1.getD e default)) hs rfl (zL (hm.del (.s (.s (.s (.s (.s (.s .z)))))))) (zAT zBE (zD c C.σ.l (kTm c C.K (L.getD j default).at_)).1 e (by omega)) (by rw [zAN zBE];omega) (by omega) isAgg52 sizeOf52 rfl (vk K),rfl,fun _ _ _ _ hm hs K=>zHc (xs:=[zI (((zD c C.σ.l (kTm c C.K (L.getD j default).at_)).1.getD e default).id),zI (((zD c C.σ.l (kTm c C.K (L.getD j default).at_)).1.getD e default).p0),zI (((zD c C.σ.l (kTm c C.K (L.getD j default).at_)).1.getD e default).p1),zI (((zD c C.σ.l (kTm c C.K (L.getD j default).at_)).1.getD e default).p2),.int .u16 (((((zD c C.σ.l (kTm c C.K (L.getD j default).at_)).1.getD e default).a).toNat:Nat):Int),zI (((zD c C.σ.l (kTm c C.K (L.getD j default).at_)).1.getD e default).m)]) (ys:=[zI (((zD c C.σ.l (kTm c C.K (L.getD j default).at_)).1.getD e default).id),zI (((zD c C.σ.l (kTm c C.K (L.getD j default).at_)).1.getD e default).p0),zI (((zD c C.σ.l (kTm c C.K (L.getD j default).at_)).1.getD e default).p1),zI (((zD c C.σ.l (kTm c C.K (L.getD j default).at_)).1.getD e default).p2),.int .u16 (((((zD c C.σ.l (kTm c C.K (L.getD j default).at_)).1.getD e default).a).toNat:Nat):Int),zI (((zD c C.σ.l (kTm c C.K (L.getD j default).at_)).1.getD e default).m)]) (ks:=[.i .i64,.i .i64,.i .i64,.i .i64,.i .u16,.i .i64]) 6 hs rfl rfl (by kernel_rfl) (by kernel_rfl) (by kernel_rfl) (by decide) (.i (.i (.i (.i (.i (.i .n)))))) (.i (.i (.i (.i (.i (.i .n)))))) rfl (fun a w hs=>wpList_nil (K _ _ (by rw [show (!(zAI [zI (((zD c C.σ.l (kTm c C.K (L.getD j default).at_)).1.getD e default).id),zI (((zD c C.σ.l (kTm c C.K (L.getD j default).at_)).1.getD e default).p0),zI (((zD c C.σ.l (kTm c C.K (L.getD j default).at_)).1.getD e default).p1),zI (((zD c C.σ.l (kTm c C.K (L.getD j default).at_)).1.getD e default).p2),.int .u16 (((((zD c C.σ.l (kTm c C.K (L.getD j default).at_)).1.getD e default).a).toNat:Nat):Int),zI (((zD c C.σ.l (kTm c C.K (L.getD j default).at_)).1.getD e default).m)] [zI (((zD c C.σ.l (kTm c C.K (L.getD j default).at_)).1.getD e default).id),zI (((zD c C.σ.l (kTm c C.K (L.getD j default).at_)).1.getD e default).p0),zI (((zD c C.σ.l (kTm c C.K (L.getD j default).at_)).1.getD e default).p1),zI (((zD c C.σ.l (kTm c C.K (L.getD j default).at_)).1.getD e default).p2),.int .u16 (((((zD c C.σ.l (kTm c C.K (L.getD j default).at_)).1.getD e default).a).toNat:Nat):Int),zI (((zD c C.σ.l (kTm c C.K (L.getD j default).at_)).1.getD e default).m)])) = false from congrArg Bool.not (zNT ((zD c C.σ.l (kTm c C.K (L.getD j default).at_)).1.getD e default))] at hs;exact hs))),fun _ _ _ _ hm hs K=>zF hs rfl rfl rfl (zHi hs rfl rfl rfl (fun a w hs=>wpList_nil (K _ _ (by rw [show (decide (0 < ((e:Nat):Int))) = true from decide_eq_true (by omega)] at hs;exact hs)))),rfl,(by omega),fun _ _ _ _ hm hs K=>zF hs rfl rfl rfl (zBL (j:=(((e:Nat):Int) - 1).toNat) hs rfl rfl (zL (hm.del (.s (.s .z)))) (by omega) (by omega) underlying34 sizeOf52 rfl (vk K)),fun _ _ _ _ hm hs K=>zF hs rfl rfl rfl (zEI hs rfl (zL (hm.del (.s (.s .z)))) (by omega) underlying52 rfl sizeOf3 (by decide) (o:=((((e:Nat):Int) - 1).toNat) * 6 + 0) rfl rfl (vk K)),fun _ _ _ _ hm hs K=>zF hs rfl rfl rfl (zBS (u:=zI (((zD c C.σ.l (kTm c C.K (L.getD j default).at_)).1.getD ((((e:Nat):Int) - 1).toNat) default).id)) hs rfl (zL (hm.del (.s (.s .z)))) ((zCK zBE (zD c C.σ.l (kTm c C.K (L.getD j default).at_)).1 ((((e:Nat):Int) - 1).toNat) 0 (by omega) (by decide)).trans rfl) isAgg3 rfl (vk K)),fun _ _ _ _ hm hs K=>zF hs rfl rfl rfl (zGj hs rfl rfl rfl (fun a w hs=>wpList_nil (K _ _ (by rw [show (decide ((((zD c C.σ.l (kTm c C.K (L.getD j default).at_)).1.getD e default).id) ≤ (((zD c C.σ.l (kTm c C.K (L.getD j default).at_)).1.getD ((((e:Nat):Int) - 1).toNat) default).id))) = false from decide_eq_false (by rw [show ((((e:Nat):Int) - 1).toNat) = e - 1 by omega];exact zHm (by omega) (by omega))] at hs;exact hs)))),⟨rfl,by kernel_rfl,fun _=>rfl,rfl,rfl,trivial⟩,fun _=>rfl,?_⟩
     refine goE 3 [] [112,2,5,7,8,11,18,39,40,41,110,111] .n ⟨(by omega),?_⟩
     refine cl (·.drop (.c .z .n)) ?_
     intro a w hs;refine ⟨_,?_,(e + 1),rfl,hs.sub (.c rfl (.c rfl (.c rfl (.c rfl (.c rfl (.c rfl (.c rfl (.c rfl (.c rfl (.c rfl (.c rfl (.c rfl .n)))))))))))),by omega⟩
     omega
    intro a w hs
    refine zS [.p [] [],.p [0] [0],.p [] [],.v [2,1] (.pointer (some (adr v12 (e * 6)))),.v [3] (.agg #[zI (((zD c C.σ.l (kTm c C.K (L.getD j default).at_)).1.getD e default).id),zI (((zD c C.σ.l (kTm c C.K (L.getD j default).at_)).1.getD e default).p0),zI (((zD c C.σ.l (kTm c C.K (L.getD j default).at_)).1.getD e default).p1),zI (((zD c C.σ.l (kTm c C.K (L.getD j default).at_)).1.getD e default).p2),.int .u16 (((((zD c C.σ.l (kTm c C.K (L.getD j default).at_)).1.getD e default).a).toNat:Nat):Int),zI (((zD c C.σ.l (kTm c C.K (L.getD j default).at_)).1.getD e default).m)]),.p [] [1],.v [5,4] (.bool (false)),.p [6] [],.p [7] [],.v [8,7] (.bool (false)),.p [9,7] [],.p [10] [],.p [11,10] [],.p [10] [],.p [10] [],.p [14,10] [],.p [15,13,10] [],.p [16,10] [],.p [17,10] [],.v [18,12,10] undef,.p [19,10,7] [],.p [20,7] []] [21] hs .n (.c (.s .z) (.c .z .n)) (by kernel_rfl) ⟨rfl,fun _ _ _ _ hm hs K=>zBL (j:=e) hs rfl rfl (zL (hm.del (.s (.s (.s (.s (.s (.s .z)))))))) rfl (by omega) underlying34 sizeOf52 rfl (vk K),fun _ _ _ _ hm hs K=>zBA (cs:=zA0 ((zD c C.σ.l (kTm c C.K (L.getD j default).at_)).1.getD e default)) hs rfl (zL (hm.del (.s (.s (.s (.s (.s (.s .z)))))))) (zAT zBE (zD c C.σ.l (kTm c C.K (L.getD j default).at_)).1 e (by omega)) (by rw [zAN zBE];omega) (by omega) isAgg52 sizeOf52 rfl (vk K),rfl,fun _ _ _ _ hm hs K=>zHc (xs:=[zI (((zD c C.σ.l (kTm c C.K (L.getD j default).at_)).1.getD e default).id),zI (((zD c C.σ.l (kTm c C.K (L.getD j default).at_)).1.getD e default).p0),zI (((zD c C.σ.l (kTm c C.K (L.getD j default).at_)).1.getD e default).p1),zI (((zD c C.σ.l (kTm c C.K (L.getD j default).at_)).1.getD e default).p2),.int .u16 (((((zD c C.σ.l (kTm c C.K (L.getD j default).at_)).1.getD e default).a).toNat:Nat):Int),zI (((zD c C.σ.l (kTm c C.K (L.getD j default).at_)).1.getD e default).m)]) (ys:=[zI (((zD c C.σ.l (kTm c C.K (L.getD j default).at_)).1.getD e default).id),zI (((zD c C.σ.l (kTm c C.K (L.getD j default).at_)).1.getD e default).p0),zI (((zD c C.σ.l (kTm c C.K (L.getD j default).at_)).1.getD e default).p1),zI (((zD c C.σ.l (kTm c C.K (L.getD j default).at_)).1.getD e default).p2),.int .u16 (((((zD c C.σ.l (kTm c C.K (L.getD j default).at_)).1.getD e default).a).toNat:Nat):Int),zI (((zD c C.σ.l (kTm c C.K (L.getD j default).at_)).1.getD e default).m)]) (ks:=[.i .i64,.i .i64,.i .i64,.i .i64,.i .u16,.i .i64]) 6 hs rfl rfl (by kernel_rfl) (by kernel_rfl) (by kernel_rfl) (by decide) (.i (.i (.i (.i (.i (.i .n)))))) (.i (.i (.i (.i (.i (.i .n)))))) rfl (fun a w hs=>wpList_nil (K _ _ (by rw [show (!(zAI [zI (((zD c C.σ.l (kTm c C.K (L.getD j default).at_)).1.getD e default).id),zI (((zD c C.σ.l (kTm c C.K (L.getD j default).at_)).1.getD e default).p0),zI (((zD c C.σ.l (kTm c C.K (L.getD j default).at_)).1.getD e default).p1),zI (((zD c C.σ.l (kTm c C.K (L.getD j default).at_)).1.getD e default).p2),.int .u16 (((((zD c C.σ.l (kTm c C.K (L.getD j default).at_)).1.getD e default).a).toNat:Nat):Int),zI (((zD c C.σ.l (kTm c C.K (L.getD j default).at_)).1.getD e default).m)] [zI (((zD c C.σ.l (kTm c C.K (L.getD j default).at_)).1.getD e default).id),zI (((zD c C.σ.l (kTm c C.K (L.getD j default).at_)).1.getD e default).p0),zI (((zD c C.σ.l (kTm c C.K (L.getD j default).at_)).1.getD e default).p1),zI (((zD c C.σ.l (kTm c C.K (L.getD j default).at_)).1.getD e default).p2),.int .u16 (((((zD c C.σ.l (kTm c C.K (L.getD j default).at_)).1.getD e default).a).toNat:Nat):Int),zI (((zD c C.σ.l (kTm c C.K (L.getD j default).at_)).1.getD e default).m)])) = false from congrArg Bool.not (zNT ((zD c C.σ.l (kTm c C.K (L.getD j default).at_)).1.getD e default))] at hs;exact hs))),fun _ _ _ _ hm hs K=>zF hs rfl rfl rfl (zHi hs rfl rfl rfl (fun a w hs=>wpList_nil (K _ _ (by rw [show (decide (0 < ((e:Nat):Int))) = false from decide_eq_false (by omega)] at hs;exact hs)))),fun _ _ _ _ hm hs K=>zBm hs rfl rfl rfl rfl rfl (vk K),⟨rfl,by kernel_rfl,fun _=>rfl,rfl,rfl,trivial⟩,fun _=>rfl,?_⟩
    refine goE 3 [] [112,2,5,7,8,11,18,39,40,41,110,111] .n ⟨(by omega),?_⟩
    refine cl (·.drop (.c .z .n)) ?_
    intro a w hs;refine ⟨_,?_,(e + 1),rfl,hs.sub (.c rfl (.c rfl (.c rfl (.c rfl (.c rfl (.c rfl (.c rfl (.c rfl (.c rfl (.c rfl (.c rfl (.c rfl .n)))))))))))),by omega⟩
    omega
   refine go 2 [] [41,2,5,7,8,39,40] .n ⟨(by omega),?_⟩
   refine cl (·.drop (.c (.s (.s (.s (.s (.s .z))))) (.c (.s (.s (.s (.s .z)))) (.c (.s (.s (.s .z))) (.c (.s .z) (.c .z .n)))))) ?_
   refine cl (·.reorder (.c (.s .z) (.c .z .n))) ?_
   intro a w hs;refine ⟨_,?_,(j + 1),Y10,(zLf c C (L.getD j default).at_),true,(kTm c C.K (L.getD j default).at_),rfl,hs.sub (.c rfl (.c rfl (.c rfl (.c rfl (.c rfl (.c rfl (.c rfl .n))))))),by omega,hY11,(zMY ⟨by omega,by omega⟩ hI1_2),(fun i=>Nat.le_succ_of_le (hI1_3 i)),(Nat.succ_le_succ hI1_4),(ShI.shown hq1),htr⟩
   omega
  rw [c_16] at hs
  revert a w hs
  refine go 6 [] [11,2,5,39,40,41] .n ?_
  intro a w hs
  refine zS [.p [] [],.p [0] [0],.p [] [],.p [1] []] [2,3] hs .n (.c .z .n) (by kernel_rfl) ⟨rfl,⟨rfl,by kernel_rfl,fun _=>rfl,rfl,rfl,trivial⟩,fun _=>rfl,?_⟩
  refine goE 2 [] [76,13,8,7,11,2,5,39,40,41] .n ?_
  intro a w hs;refine zM hs (.c rfl .n) call12 .n (zMu hY11 _ (hs.mem.del (.s (.s (.s .z))))) rfl ?_;clear hs w a;rintro v30 _ a w rfl hs
  rw [show (zLf c C (L.getD j default).at_).σ = C.σ from rfl] at hs
  refine zAD hs rfl (zL (hs.mem.del .z)).isSl underlying40 rfl ?_
  refine goL 1 [] [79,78,77,13,8,7,11,2,5,39,40,41] .n ?_
  refine cl (·.addNil 44 3) ?_
  refine cl (·.rerow .z (m':=([]:List RI).length) (xs':=(([]:List RI).flatMap snV)) (rfl) (rfl)) ?_
  refine cl (·.addRws 142) ?_
  refine cl (·.reorder (.c (.s .z) (.c .z (.c .z (.c .z (.c .z (.c .z (.c .z (.c .z .n))))))))) ?_
  intro a w hs;refine zCL (fun mm_ a w=>∃ i:Nat,∃ q:Value,∃ K:List RI,mm_ = C.σ.l.length - i ∧ St 142 [(2,pt g1 0),(5,pt g2 0),(7,.bool (true)),(8,zI (kTm c C.K (L.getD j default).at_)),(11,pt g13 0),(13,q),(39,u),(40,nI L.length),(41,nI j),(77,v30),(78,nI C.σ.l.length),(79,nI i)] w0 [] [row q 44 3 K.length (K.flatMap snV),rws 142 K,row v30 2 1 C.σ.l.length (iV (C.σ.l.map zU.t)),blk g13 [.bool (true),zI (kTm c C.K (L.getD j default).at_),v12] 36,blk g9 [zI ((L.getD j default).k),zI ((L.getD j default).at_),(L.getD j default).v] 33,row v12 52 6 ((zD c C.σ.l (kTm c C.K (L.getD j default).at_)).1.length) ((zD c C.σ.l (kTm c C.K (L.getD j default).at_)).1.flatMap zA0),Y10,blk g1 [zI c.ring,zI c.window,zI c.base,zI c.gain,zI c.least,zI c.most,zI c.slack,zI c.num,zI c.den,zI c.extra,.bool (c.curve)] 23] a w ∧ i ≤ C.σ.l.length ∧ sns K = C.σ.l.take i) ⟨0,.slice none 0 0,[],rfl,hs.sub (.c rfl (.c rfl (.c rfl (.c rfl (.c rfl (.c rfl (.c rfl (.c rfl (.c rfl (.c rfl (.c rfl (.c rfl .n)))))))))))),by omega,rfl⟩ ?_
  clear hs w a;rintro mm_ a w ⟨i,q,K,rfl,hs,hI2_0,hI2_1⟩
  revert a w hs
  refine go 1 [] [80,2,5,7,8,11,13,39,40,41,77,78,79] .n ?_
  refine ifG rfl (fun c_31=>?_) (fun c_31=>?_)
  ·
   refine go 0 [] [2,5,7,8,11,13,39,40,41,77,78,79] .n ?_
   intro a w hs;refine zAy (j:=i) hs rfl rfl (zL (hs.mem.del (.s (.s .z)))) rfl (by omega) underlying40 sizeOf2 rfl ?_
   intro a w hs;refine zBS (u:=zI ((C.σ.l.map zU.t).getD i 0)) hs rfl (zL (hs.mem.del (.s (.s .z)))) (zIJ (C.σ.l.map zU.t) i (by rw [List.length_map];omega)) isAgg2 rfl ?_
   have hLl:K.length = i:=by rw [← zAH K,hI2_1,List.length_take];omega
   refine goL 3 [] [85,84,2,5,7,8,11,13,39,40,41,77,78,79] .n ?_
   intro a w hs;refine zM hs (.c rfl (.c rfl .n)) call13 .n (zM9 hY11 ((C.σ.l.map zU.t).getD i 0) _ (hs.mem.del (.s (.s (.s (.s (.s (.s .z)))))))) rfl ?_;clear hs w a;rintro _ _ a w ⟨v32,rfl,rfl⟩ hs
   rw [show (zLf c C (L.getD j default).at_).σ = C.σ from rfl] at hs
   revert a w hs
   refine goL 3 [] [88,87,2,5,7,8,11,13,39,40,41,77,78,79] .n ?_
   have hb_:(zDU C.σ.l ((C.σ.l.map zU.t).getD i 0)) = true:=by rw [zMU (by omega)];exact zII (by omega)
   intro a w hs;rw [hb_] at hs;clear hb_
   revert a w hs
   refine go 1 [] [16,88,87,2,5,7,8,11,13,39,40,41,77,78,79] .n (fun g33=>?_)
   intro a w hs;refine zAe hs rfl rfl .z (.z (.c (.c (.c .n)))) (zJ rfl (zJ rfl (zJ (zL (hs.mem.del (.s .z))).isSl.one zAb))) sizeOf44 rfl ?_
   refine goL 7 [0] [93,91,2,5,7,8,11,39,40,41,77,78,79] (.c .z .n) ⟨rfl,fun g34=>?_⟩
   intro a w hs;refine zBF (size:=3) (bytes:=40) hs rfl rfl (.s (.s (.s .z))) (zAJ (m:=1) (size:=3) (hs.mem.del .z) rfl (by decide)) (zJ rfl (zJ rfl (zJ (zL (hs.mem.del (.s (.s .z)))).isSl.one zAb))) underlying39 (i:=Tryz.t44) rfl rfl rfl rfl rfl (by decide) (by omega) (by simp only [maxLen];omega) rfl ?_;intro v35
   refine cl (·.drop (.c (.s .z) .n)) ?_
   refine goL 3 [] [79,13,2,5,7,8,11,39,40,41,77,78] .n ⟨(by omega),?_⟩
   intro a w hs;replace hs:=hs.rerow .z (m':=(K ++ [(⟨(zBo C.σ.l ((C.σ.l.map zU.t).getD i 0)).t,(zBo C.σ.l ((C.σ.l.map zU.t).getD i 0)).tm,(zBo C.σ.l ((C.σ.l.map zU.t).getD i 0)).l,v32⟩ : RI)]).length) (xs':=((K ++ [(⟨(zBo C.σ.l ((C.σ.l.map zU.t).getD i 0)).t,(zBo C.σ.l ((C.σ.l.map zU.t).getD i 0)).tm,(zBo C.σ.l ((C.σ.l.map zU.t).getD i 0)).l,v32⟩ : RI)]).flatMap snV)) (by rw [List.length_append];rfl) (by rw [List.flatMap_append];rfl)
   replace hs:=hs.rwsSnoc (x:=(⟨(zBo C.σ.l ((C.σ.l.map zU.t).getD i 0)).t,(zBo C.σ.l ((C.σ.l.map zU.t).getD i 0)).tm,(zBo C.σ.l ((C.σ.l.map zU.t).getD i 0)).l,v32⟩ : RI)) (.c (.s (.s (.s .z))) (.c (.s (.s .z)) .n))
   replace hs:=hs.drop (.c (.s (.s .z)) .n)
   replace hs:=hs.reorder (.c (.s .z) (.c .z (.c .z (.c .z (.c .z (.c .z (.c .z (.c .z .n))))))))
   refine ⟨_,?_,(i + 1),v35,(K ++ [(⟨(zBo C.σ.l ((C.σ.l.map zU.t).getD i 0)).t,(zBo C.σ.l ((C.σ.l.map zU.t).getD i 0)).tm,(zBo C.σ.l ((C.σ.l.map zU.t).getD i 0)).l,v32⟩ : RI)]),rfl,hs.sub (.c rfl (.c rfl (.c rfl (.c rfl (.c rfl (.c rfl (.c rfl (.c rfl (.c rfl (.c rfl (.c rfl (.c rfl .n)))))))))))),by omega,zMw hst hI2_1 (by omega)⟩
   omega
  refine go 4 [0,1] [100,99,97,2,5,7,8,11,39,40,41] (.c (.s (.s (.s (.s (.s (.s (.s .z))))))) (.c (.s (.s (.s .z))) .n)) ⟨rfl,rfl,?_⟩
  intro a w hs;refine zM hs (.c rfl (.c rfl (.c rfl .n))) call14 (.c (.s (.s .z)) (.c (.s (.s .z)) .n)) (zJb c K q C.σ.l (kTm c C.K (L.getD j default).at_) htr _ (hI2_1.trans (List.take_of_length_le (by omega))) (Cli.oks (C:=(zLf c C (L.getD j default).at_)) hY11) hwf _ (hs.mem.allX (.c (.s (.s .z)) (.c (.s (.s .z)) .n)))) rfl ?_;clear hs w a;rintro _ _ a w ⟨v36,rfl,rfl⟩ hs
  revert a w hs
  refine goL 6 [] [104,18,2,5,7,8,11,39,40,41] .n ?_
  intro a w hs;refine zAD hs rfl (zL (hs.mem.del .z)).isSl underlying34 rfl ?_
  refine goL 2 [0] [107,105,18,2,5,7,8,11,39,40,41] (.c (.s (.s .z)) .n) ⟨rfl,?_⟩
  intro a w hs;refine zAD hs rfl (zL (hs.mem.del (.s (.s (.s (.s (.s .z))))))).isSl underlying34 rfl ?_
  refine zOk 1 1 [] [109,18,2,5,7,8,11,39,40,41] .n ?_
  have hb_:(!(((((zD c C.σ.l (kTm c C.K (L.getD j default).at_)).1.length:Nat):Int):Int) == (((zD c C.σ.l (kTm c C.K (L.getD j default).at_)).1.length:Nat):Int))) = false:=za9 rfl
  intro a w hs;rw [hb_] at hs;clear hb_
  revert a w hs
  refine go 2 [] [110,18,2,5,7,8,11,39,40,41] .n ?_
  intro a w hs;refine zAD hs rfl (zL (hs.mem.del (.s .z))).isSl underlying34 rfl ?_
  refine goL 1 [] [112,111,110,18,2,5,7,8,11,39,40,41] .n ?_
  intro a w hs;refine zCL (fun mm_ a w=>∃ e:Nat,mm_ = (zD c C.σ.l (kTm c C.K (L.getD j default).at_)).1.length - e ∧ St 142 [(2,pt g1 0),(5,pt g2 0),(7,.bool (true)),(8,zI (kTm c C.K (L.getD j default).at_)),(11,pt g13 0),(18,v36),(39,u),(40,nI L.length),(41,nI j),(110,v36),(111,nI ((zD c C.σ.l (kTm c C.K (L.getD j default).at_)).1.length)),(112,nI e)] w0 [] [blk g13 [.bool (true),zI (kTm c C.K (L.getD j default).at_),v12] 36,row v36 52 6 ((zD c C.σ.l (kTm c C.K (L.getD j default).at_)).1.length) ((zD c C.σ.l (kTm c C.K (L.getD j default).at_)).1.flatMap zA0),blk g1 [zI c.ring,zI c.window,zI c.base,zI c.gain,zI c.least,zI c.most,zI c.slack,zI c.num,zI c.den,zI c.extra,.bool (c.curve)] 23,row v30 2 1 C.σ.l.length (iV (C.σ.l.map zU.t)),blk g9 [zI ((L.getD j default).k),zI ((L.getD j default).at_),(L.getD j default).v] 33,row v12 52 6 ((zD c C.σ.l (kTm c C.K (L.getD j default).at_)).1.length) ((zD c C.σ.l (kTm c C.K (L.getD j default).at_)).1.flatMap zA0),Y10] a w ∧ e ≤ (zD c C.σ.l (kTm c C.K (L.getD j default).at_)).1.length) ⟨0,rfl,hs.sub (.c rfl (.c rfl (.c rfl (.c rfl (.c rfl (.c rfl (.c rfl (.c rfl (.c rfl (.c rfl (.c rfl (.c rfl .n)))))))))))),by omega⟩ ?_
  clear hs w a;rintro mm_ a w ⟨e,rfl,hs,hI3_0⟩
  revert a w hs
  refine go 1 [] [113,2,5,7,8,11,18,39,40,41,110,111,112] .n ?_
  refine ifG rfl (fun c_37=>?_) (fun c_37=>?_)
  ·
   refine go 1 [] [114,2,5,7,8,11,18,39,40,41,110,111,112] .n ?_
   intro a w hs;refine zBL (j:=e) hs rfl rfl (zL (hs.mem.del (.s .z))) rfl (by omega) underlying34 sizeOf52 rfl ?_
   intro a w hs;refine zBA (cs:=zA0 ((zD c C.σ.l (kTm c C.K (L.getD j default).at_)).1.getD e default)) hs rfl (zL (hs.mem.del (.s .z))) (zAT zBE (zD c C.σ.l (kTm c C.K (L.getD j default).at_)).1 e (by omega)) (by rw [zAN zBE];omega) (by omega) isAgg52 sizeOf52 rfl ?_
   refine goL 3 [0] [20,21,2,5,7,8,11,18,39,40,41,110,111,112] .n (fun g38=>⟨rfl,?_⟩)
   by_cases ce:0 < e
   ·
    intro a w hs
    refine zS [.p [] [],.p [0] [0],.p [] [],.v [2,1] (.pointer (some (adr v12 (e * 6)))),.v [3] (.agg #[zI (((zD c C.σ.l (kTm c C.K (L.getD j default).at_)).1.getD e default).id),zI (((zD c C.σ.l (kTm c C.K (L.getD j default).at_)).1.getD e default).p0),zI (((zD c C.σ.l (kTm c C.K (L.getD j default).at_)).1.getD e default).p1),zI (((zD c C.σ.l (kTm c C.K (L.getD j default).at_)).1.getD e default).p2),.int .u16 (((((zD c C.σ.l (kTm c C.K (L.getD j default).at_)).1.getD e default).a).toNat:Nat):Int),zI (((zD c C.σ.l (kTm c C.K (L.getD j default).at_)).1.getD e default).m)]),.p [] [1],.v [5,4] (.bool (false)),.p [6] [],.p [7] [],.v [8,7] (.bool (true)),.p [9,7] [],.p [10] [],.p [11,10] [1],.p [10] [],.p [10] [],.p [14,10] [],.v [15,13,10] (.pointer (some (adr v36 (((((e:Nat):Int) - 1).toNat) * 6)))),.v [16,10] (.pointer (some (adr v36 (((((e:Nat):Int) - 1).toNat) * 6 + 0)))),.v [17,10] (zI (((zD c C.σ.l (kTm c C.K (L.getD j default).at_)).1.getD ((((e:Nat):Int) - 1).toNat) default).id)),.v [18,12,10] (.bool (false)),.p [19,10,7] [],.p [20,7] []] [21] hs .n (.c (.s .z) (.c .z .n)) (by kernel_rfl) ⟨rfl,fun _ _ _ _ hm hs K=>zBL (j:=e) hs rfl rfl (zL (hm.del (.s (.s (.s (.s (.s (.s .z)))))))) rfl (by omega) underlying34 sizeOf52 rfl (vk K),fun _ _ _ _ hm hs K=>zBA (cs:=zA0 ((zD c C.σ.l (kTm c C.K (L.getD j default).at_)).1.getD e default)) hs rfl (zL (hm.del (.s (.s (.s (.s (.s (.s .z)))))))) (zAT zBE (zD c C.σ.l (kTm c C.K (L.getD j default).at_)).1 e (by omega)) (by rw [zAN zBE];omega) (by omega) isAgg52 sizeOf52 rfl (vk K),rfl,fun _ _ _ _ hm hs K=>zHc (xs:=[zI (((zD c C.σ.l (kTm c C.K (L.getD j default).at_)).1.getD e default).id),zI (((zD c C.σ.l (kTm c C.K (L.getD j default).at_)).1.getD e default).p0),zI (((zD c C.σ.l (kTm c C.K (L.getD j default).at_)).1.getD e default).p1),zI (((zD c C.σ.l (kTm c C.K (L.getD j default).at_)).1.getD e default).p2),.int .u16 (((((zD c C.σ.l (kTm c C.K (L.getD j default).at_)).1.getD e default).a).toNat:Nat):Int),zI (((zD c C.σ.l (kTm c C.K (L.getD j default).at_)).1.getD e default).m)]) (ys:=[zI (((zD c C.σ.l (kTm c C.K (L.getD j default).at_)).1.getD e default).id),zI (((zD c C.σ.l (kTm c C.K (L.getD j default).at_)).1.getD e default).p0),zI (((zD c C.σ.l (kTm c C.K (L.getD j default).at_)).1.getD e default).p1),zI (((zD c C.σ.l (kTm c C.K (L.getD j default).at_)).1.getD e default).p2),.int .u16 (((((zD c C.σ.l (kTm c C.K (L.getD j default).at_)).1.getD e default).a).toNat:Nat):Int),zI (((zD c C.σ.l (kTm c C.K (L.getD j default).at_)).1.getD e default).m)]) (ks:=[.i .i64,.i .i64,.i .i64,.i .i64,.i .u16,.i .i64]) 6 hs rfl rfl (by kernel_rfl) (by kernel_rfl) (by kernel_rfl) (by decide) (.i (.i (.i (.i (.i (.i .n)))))) (.i (.i (.i (.i (.i (.i .n)))))) rfl (fun a w hs=>wpList_nil (K _ _ (by rw [show (!(zAI [zI (((zD c C.σ.l (kTm c C.K (L.getD j default).at_)).1.getD e default).id),zI (((zD c C.σ.l (kTm c C.K (L.getD j default).at_)).1.getD e default).p0),zI (((zD c C.σ.l (kTm c C.K (L.getD j default).at_)).1.getD e default).p1),zI (((zD c C.σ.l (kTm c C.K (L.getD j default).at_)).1.getD e default).p2),.int .u16 (((((zD c C.σ.l (kTm c C.K (L.getD j default).at_)).1.getD e default).a).toNat:Nat):Int),zI (((zD c C.σ.l (kTm c C.K (L.getD j default).at_)).1.getD e default).m)] [zI (((zD c C.σ.l (kTm c C.K (L.getD j default).at_)).1.getD e default).id),zI (((zD c C.σ.l (kTm c C.K (L.getD j default).at_)).1.getD e default).p0),zI (((zD c C.σ.l (kTm c C.K (L.getD j default).at_)).1.getD e default).p1),zI (((zD c C.σ.l (kTm c C.K (L.getD j default).at_)).1.getD e default).p2),.int .u16 (((((zD c C.σ.l (kTm c C.K (L.getD j default).at_)).1.getD e default).a).toNat:Nat):Int),zI (((zD c C.σ.l (kTm c C.K (L.getD j default).at_)).1.getD e default).m)])) = false from congrArg Bool.not (zNT ((zD c C.σ.l (kTm c C.K (L.getD j default).at_)).1.getD e default))] at hs;exact hs))),fun _ _ _ _ hm hs K=>zF hs rfl rfl rfl (zHi hs rfl rfl rfl (fun a w hs=>wpList_nil (K _ _ (by rw [show (decide (0 < ((e:Nat):Int))) = true from decide_eq_true (by omega)] at hs;exact hs)))),rfl,(by omega),fun _ _ _ _ hm hs K=>zF hs rfl rfl rfl (zBL (j:=(((e:Nat):Int) - 1).toNat) hs rfl rfl (zL (hm.del (.s (.s .z)))) (by omega) (by omega) underlying34 sizeOf52 rfl (vk K)),fun _ _ _ _ hm hs K=>zF hs rfl rfl rfl (zEI hs rfl (zL (hm.del (.s (.s .z)))) (by omega) underlying52 rfl sizeOf3 (by decide) (o:=((((e:Nat):Int) - 1).toNat) * 6 + 0) rfl rfl (vk K)),fun _ _ _ _ hm hs K=>zF hs rfl rfl rfl (zBS (u:=zI (((zD c C.σ.l (kTm c C.K (L.getD j default).at_)).1.getD ((((e:Nat):Int) - 1).toNat) default).id)) hs rfl (zL (hm.del (.s (.s .z)))) ((zCK zBE (zD c C.σ.l (kTm c C.K (L.getD j default).at_)).1 ((((e:Nat):Int) - 1).toNat) 0 (by omega) (by decide)).trans rfl) isAgg3 rfl (vk K)),fun _ _ _ _ hm hs K=>zF hs rfl rfl rfl (zGj hs rfl rfl rfl (fun a w hs=>wpList_nil (K _ _ (by rw [show (decide ((((zD c C.σ.l (kTm c C.K (L.getD j default).at_)).1.getD e default).id) ≤ (((zD c C.σ.l (kTm c C.K (L.getD j default).at_)).1.getD ((((e:Nat):Int) - 1).toNat) default).id))) = false from decide_eq_false (by rw [show ((((e:Nat):Int) - 1).toNat) = e - 1 by omega];exact zHm (by omega) (by omega))] at hs;exact hs)))),⟨rfl,by kernel_rfl,fun _=>rfl,rfl,rfl,trivial⟩,fun _=>rfl,?_⟩
    refine goE 3 [] [112,2,5,7,8,11,18,39,40,41,110,111] .n ⟨(by omega),?_⟩
    refine cl (·.drop (.c .z .n)) ?_
    intro a w hs;refine ⟨_,?_,(e + 1),rfl,hs.sub (.c rfl (.c rfl (.c rfl (.c rfl (.c rfl (.c rfl (.c rfl (.c rfl (.c rfl (.c rfl (.c rfl (.c rfl .n)))))))))))),by omega⟩
    omega
   intro a w hs
   refine zS [.p [] [],.p [0] [0],.p [] [],.v [2,1] (.pointer (some (adr v12 (e * 6)))),.v [3] (.agg #[zI (((zD c C.σ.l (kTm c C.K (L.getD j default).at_)).1.getD e default).id),zI (((zD c C.σ.l (kTm c C.K (L.getD j default).at_)).1.getD e default).p0),zI (((zD c C.σ.l (kTm c C.K (L.getD j default).at_)).1.getD e default).p1),zI (((zD c C.σ.l (kTm c C.K (L.getD j default).at_)).1.getD e default).p2),.int .u16 (((((zD c C.σ.l (kTm c C.K (L.getD j default).at_)).1.getD e default).a).toNat:Nat):Int),zI (((zD c C.σ.l (kTm c C.K (L.getD j default).at_)).1.getD e default).m)]),.p [] [1],.v [5,4] (.bool (false)),.p [6] [],.p [7] [],.v [8,7] (.bool (false)),.p [9,7] [],.p [10] [],.p [11,10] [],.p [10] [],.p [10] [],.p [14,10] [],.p [15,13,10] [],.p [16,10] [],.p [17,10] [],.v [18,12,10] undef,.p [19,10,7] [],.p [20,7] []] [21] hs .n (.c (.s .z) (.c .z .n)) (by kernel_rfl) ⟨rfl,fun _ _ _ _ hm hs K=>zBL (j:=e) hs rfl rfl (zL (hm.del (.s (.s (.s (.s (.s (.s .z)))))))) rfl (by omega) underlying34 sizeOf52 rfl (vk K),fun _ _ _ _ hm hs K=>zBA (cs:=zA0 ((zD c C.σ.l (kTm c C.K (L.getD j default).at_)).1.getD e default)) hs rfl (zL (hm.del (.s (.s (.s (.s (.s (.s .z)))))))) (zAT zBE (zD c C.σ.l (kTm c C.K (L.getD j default).at_)).1 e (by omega)) (by rw [zAN zBE];omega) (by omega) isAgg52 sizeOf52 rfl (vk K),rfl,fun _ _ _ _ hm hs K=>zHc (xs:=[zI (((zD c C.σ.l (kTm c C.K (L.getD j default).at_)).1.getD e default).id),zI (((zD c C.σ.l (kTm c C.K (L.getD j default).at_)).1.getD e default).p0),zI (((zD c C.σ.l (kTm c C.K (L.getD j default).at_)).1.getD e default).p1),zI (((zD c C.σ.l (kTm c C.K (L.getD j default).at_)).1.getD e default).p2),.int .u16 (((((zD c C.σ.l (kTm c C.K (L.getD j default).at_)).1.getD e default).a).toNat:Nat):Int),zI (((zD c C.σ.l (kTm c C.K (L.getD j default).at_)).1.getD e default).m)]) (ys:=[zI (((zD c C.σ.l (kTm c C.K (L.getD j default).at_)).1.getD e default).id),zI (((zD c C.σ.l (kTm c C.K (L.getD j default).at_)).1.getD e default).p0),zI (((zD c C.σ.l (kTm c C.K (L.getD j default).at_)).1.getD e default).p1),zI (((zD c C.σ.l (kTm c C.K (L.getD j default).at_)).1.getD e default).p2),.int .u16 (((((zD c C.σ.l (kTm c C.K (L.getD j default).at_)).1.getD e default).a).toNat:Nat):Int),zI (((zD c C.σ.l (kTm c C.K (L.getD j default).at_)).1.getD e default).m)]) (ks:=[.i .i64,.i .i64,.i .i64,.i .i64,.i .u16,.i .i64]) 6 hs rfl rfl (by kernel_rfl) (by kernel_rfl) (by kernel_rfl) (by decide) (.i (.i (.i (.i (.i (.i .n)))))) (.i (.i (.i (.i (.i (.i .n)))))) rfl (fun a w hs=>wpList_nil (K _ _ (by rw [show (!(zAI [zI (((zD c C.σ.l (kTm c C.K (L.getD j default).at_)).1.getD e default).id),zI (((zD c C.σ.l (kTm c C.K (L.getD j default).at_)).1.getD e default).p0),zI (((zD c C.σ.l (kTm c C.K (L.getD j default).at_)).1.getD e default).p1),zI (((zD c C.σ.l (kTm c C.K (L.getD j default).at_)).1.getD e default).p2),.int .u16 (((((zD c C.σ.l (kTm c C.K (L.getD j default).at_)).1.getD e default).a).toNat:Nat):Int),zI (((zD c C.σ.l (kTm c C.K (L.getD j default).at_)).1.getD e default).m)] [zI (((zD c C.σ.l (kTm c C.K (L.getD j default).at_)).1.getD e default).id),zI (((zD c C.σ.l (kTm c C.K (L.getD j default).at_)).1.getD e default).p0),zI (((zD c C.σ.l (kTm c C.K (L.getD j default).at_)).1.getD e default).p1),zI (((zD c C.σ.l (kTm c C.K (L.getD j default).at_)).1.getD e default).p2),.int .u16 (((((zD c C.σ.l (kTm c C.K (L.getD j default).at_)).1.getD e default).a).toNat:Nat):Int),zI (((zD c C.σ.l (kTm c C.K (L.getD j default).at_)).1.getD e default).m)])) = false from congrArg Bool.not (zNT ((zD c C.σ.l (kTm c C.K (L.getD j default).at_)).1.getD e default))] at hs;exact hs))),fun _ _ _ _ hm hs K=>zF hs rfl rfl rfl (zHi hs rfl rfl rfl (fun a w hs=>wpList_nil (K _ _ (by rw [show (decide (0 < ((e:Nat):Int))) = false from decide_eq_false (by omega)] at hs;exact hs)))),fun _ _ _ _ hm hs K=>zBm hs rfl rfl rfl rfl rfl (vk K),⟨rfl,by kernel_rfl,fun _=>rfl,rfl,rfl,trivial⟩,fun _=>rfl,?_⟩
   refine goE 3 [] [112,2,5,7,8,11,18,39,40,41,110,111] .n ⟨(by omega),?_⟩
   refine cl (·.drop (.c .z .n)) ?_
   intro a w hs;refine ⟨_,?_,(e + 1),rfl,hs.sub (.c rfl (.c rfl (.c rfl (.c rfl (.c rfl (.c rfl (.c rfl (.c rfl (.c rfl (.c rfl (.c rfl (.c rfl .n)))))))))))),by omega⟩
   omega
  refine go 2 [] [41,2,5,7,8,39,40] .n ⟨(by omega),?_⟩
  refine cl (·.drop (.c (.s (.s (.s (.s (.s .z))))) (.c (.s (.s (.s (.s .z)))) (.c (.s (.s (.s .z))) (.c (.s .z) (.c .z .n)))))) ?_
  refine cl (·.reorder (.c (.s .z) (.c .z .n))) ?_
  intro a w hs;refine ⟨_,?_,(j + 1),Y10,(zLf c C (L.getD j default).at_),true,(kTm c C.K (L.getD j default).at_),rfl,hs.sub (.c rfl (.c rfl (.c rfl (.c rfl (.c rfl (.c rfl (.c rfl .n))))))),by omega,hY11,(zMY ⟨by omega,by omega⟩ hI1_2),(fun i=>Nat.le_succ_of_le (hI1_3 i)),(Nat.succ_le_succ hI1_4),(ShI.shown hq1),htr⟩
  omega
 refine go 0 [] [] .n ?_
 intro a w hs;refine zB (v:=.bool (true)) hs .n call10 (zGc _) rfl ?_
 refine goL 1 [] [4] .n ?_
 refine cl (·.drop (.c (.s .z) (.c .z .n))) ?_
 intro a w hs;exact fin hs rfl rfl ⟨rfl,rfl⟩
theorem zIb (c:zAL) (u:Value) (L:List EvR) (w0:World) (hu:Rd w0 [] u 3 L.length (L.flatMap evV)) (hL:∀ x ∈ L,x.ok w0):Calls Tryz.prog 3 #[.agg #[zI c.ring,zI c.window,zI c.base,zI c.gain,zI c.least,zI c.most,zI c.slack,zI c.num,zI c.den,zI c.extra,.bool (c.curve)],u] w0 (zAj w0 (.bool true)):=by
 by_cases hk:zCm c = 0
 · exact zGu c u L w0 hu hL hk
 · exact zHb c u L w0 hu hL hk
end Go.Proofs.YtemnjodhidlfpaaGreat
