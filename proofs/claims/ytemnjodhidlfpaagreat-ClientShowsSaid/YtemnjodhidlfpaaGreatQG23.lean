import Derived.Test.YtemnjodhidlfpaaGreatQG8
import Derived.Test.YtemnjodhidlfpaaGreatQWpose
import Derived.Test.YtemnjodhidlfpaaGreatQG18
import Derived.Test.YtemnjodhidlfpaaGreatQG22
import Derived.Test.YtemnjodhidlfpaaGreatQSxBasB
import Derived.Test.YtemnjodhidlfpaaGreatQG15
/- Walks of the client: what each function does, over the program of this seat. Printed by a program of this session. -/
namespace Go.Proofs.YtemnjodhidlfpaaGreat
open Tryz
open Go Go.Sx Go.RowKit
set_option linter.unusedVariables false
set_option linter.unusedSimpArgs false
set_option maxRecDepth 4000
set_option maxHeartbeats 1000000

theorem Sto.oks {p most:Nat} {σ:Stt} {X:HA} (h:Sto p most σ X):Oks σ.l most:=by obtain ⟨_,_,_,_,h,_⟩:=h;exact h
theorem zKP (c:zAL) (cg sp:Nat) (p:KP) (fr:Nat) (σ:Stt) (X:HA) (hX:Sto sp c.keep σ X) (w0:World) (hcg:(blk cg [zI c.ring,zI c.window,zI c.base,zI c.gain,zI c.least,zI c.most,zI c.slack,zI c.num,zI c.den,zI c.extra,.bool (c.curve),pt sp 0,pt p.k 0,nI fr] 77).p w0) (hXp:X.p w0):Calls Tryz.prog 30 #[pt cg 0] w0 (Ret w0 [] fun u N=>∃ L:List RI,sns L = σ.l ∧ N = [row u 44 3 L.length (L.flatMap snV),rws 142 L]):=by
 have ho:=hX.oks;have ho1:=ho.le;have ho2:=ho.m64
 refine zG (F0:=[(0,pt cg 0)]) func30 rfl rfl rfl (.c .n) (Mem.nil _) ?_
 refine go 5 [] [9,3,0] .n ?_
 intro a w hs;refine zX hs rfl (hs.mem.keep hcg (by simp [zO,blk])) (.s (.s (.s (.s (.s (.s (.s (.s (.s (.s (.s .z))))))))))) isAgg73 rfl ?_
 intro a w hs;refine zB (v:=nI σ.l.length) hs (.c rfl .n) call61 (zYl hX _ (hs.mem.keepH hXp (by simp))) rfl ?_
 refine goL 1 [] [12,11,3,0] .n ?_
 refine cl (·.addNil 44 3) ?_
 refine cl (·.rerow .z (m':=([]:List RI).length) (xs':=(([]:List RI).flatMap snV)) (rfl) (rfl)) ?_
 refine cl (·.addRws 142) ?_
 refine cl (·.reorder (.c (.s .z) (.c .z .n))) ?_
 intro a w hs;refine zCL (fun mm_ a w=>∃ j:Nat,∃ u:Value,∃ L:List RI,mm_ = σ.l.length - j ∧ St 30 [(0,pt cg 0),(3,u),(11,nI σ.l.length),(12,zI (j:Int))] w0 [] [row u 44 3 L.length (L.flatMap snV),rws 142 L] a w ∧ j ≤ σ.l.length ∧ sns L = σ.l.take j) ⟨0,.slice none 0 0,[],rfl,hs.sub (.c rfl (.c rfl (.c rfl (.c rfl .n)))),by omega,rfl⟩ ?_
 clear hs w a;rintro mm_ a w ⟨j,u,L,rfl,hs,hI1_0,hI1_1⟩
 revert a w hs
 refine go 1 [] [13,0,3,11,12] .n ?_
 refine ifG rfl (fun c_1=>?_) (fun c_1=>?_)
 ·
  refine go 1 [] [14,0,3,11,12] .n ?_
  have hLl:L.length = j:=by rw [← zAH L,hI1_1,List.length_take];omega
  refine go 4 [] [18,4,0,3,11,12] .n ?_
  intro a w hs;refine zX hs rfl (hs.mem.keep hcg (by simp [zO,blk])) (.s (.s (.s (.s (.s (.s (.s (.s (.s (.s (.s .z))))))))))) isAgg73 rfl ?_
  refine goL 1 [] [20,19,0,3,11,12] .n ?_
  intro a w hs;refine zM hs (.c rfl (.c rfl .n)) call62 .n (zan hX (j:Int) _ (hs.mem.keepH hXp (by simp))) rfl ?_;clear hs w a;rintro _ _ a w ⟨v2,rfl,rfl⟩ hs
  revert a w hs
  refine goL 4 [] [5,23,22,0,3,11,12] .n (fun g3=>?_)
  intro a w hs;refine zAe hs rfl rfl .z (.z (.c (.c (.c .n)))) (zJ rfl (zJ rfl (zJ (zL (hs.mem.del (.s .z))).isSl.one zAb))) sizeOf44 rfl ?_
  refine goL 4 [0] [26,24,0,11,12] (.c .z .n) ⟨rfl,fun g4=>?_⟩
  intro a w hs;refine zBF (size:=3) (bytes:=40) hs rfl rfl (.s (.s (.s .z))) (zAJ (m:=1) (size:=3) (hs.mem.del .z) rfl (by decide)) (zJ rfl (zJ rfl (zJ (zL (hs.mem.del (.s (.s .z)))).isSl.one zAb))) underlying39 (i:=Tryz.t44) rfl rfl rfl rfl rfl (by decide) (by omega) (by simp only [maxLen];omega) rfl ?_;intro v5
  refine cl (·.drop (.c (.s .z) .n)) ?_
  refine goL 3 [] [12,3,0,11] .n ⟨(by omega),?_⟩
  intro a w hs;replace hs:=hs.rerow .z (m':=(L ++ [(⟨(sat σ.l (j:Int)).t,(sat σ.l (j:Int)).tm,(sat σ.l (j:Int)).l,v2⟩ : RI)]).length) (xs':=((L ++ [(⟨(sat σ.l (j:Int)).t,(sat σ.l (j:Int)).tm,(sat σ.l (j:Int)).l,v2⟩ : RI)]).flatMap snV)) (by rw [List.length_append];rfl) (by rw [List.flatMap_append];rfl)
  replace hs:=hs.rwsSnoc (x:=(⟨(sat σ.l (j:Int)).t,(sat σ.l (j:Int)).tm,(sat σ.l (j:Int)).l,v2⟩ : RI)) (.c (.s (.s (.s .z))) (.c (.s (.s .z)) .n))
  replace hs:=hs.drop (.c (.s (.s .z)) .n)
  replace hs:=hs.reorder (.c (.s .z) (.c .z .n))
  refine ⟨_,?_,(j + 1),v5,(L ++ [(⟨(sat σ.l (j:Int)).t,(sat σ.l (j:Int)).tm,(sat σ.l (j:Int)).l,v2⟩ : RI)]),rfl,hs.sub (.c rfl (.c rfl (.c rfl (.c rfl .n)))),by omega,zYM hI1_1 (by omega)⟩
  omega
 refine go 2 [] [2] .n ?_
 intro a w hs;exact fin hs rfl rfl ⟨L,by rw [hI1_1,List.take_of_length_le (by omega)],rfl⟩
theorem zSl (c:zAL) (cg sp:Nat) (p:KP) (fr:Nat) (σ:Stt) (Kc:KS) (X:HA) (x:Int) (v:Value) (m:Nat) (bs:List zQ) (hk:zCm c = 0) (hC:CS.ok c ⟨σ,Kc,fr⟩) (hX:Sto sp c.keep σ X) (hn:∀ i,σ.n i ≤ 1000000) (hfr:fr ≤ 1000000) (hx : -9223372036854775808 ≤ x ∧ x ≤ 9223372036854775807) (w0:World) (hM:∀ h ∈ ([blk cg [zI c.ring,zI c.window,zI c.base,zI c.gain,zI c.least,zI c.most,zI c.slack,zI c.num,zI c.den,zI c.extra,.bool (c.curve),pt sp 0,pt p.k 0,nI fr] 77,X,zGE c p Kc]:List HA),h.p w0) (hnd:(zO [blk cg [zI c.ring,zI c.window,zI c.base,zI c.gain,zI c.least,zI c.most,zI c.slack,zI c.num,zI c.den,zI c.extra,.bool (c.curve),pt sp 0,pt p.k 0,nI fr] 77,X,zGE c p Kc]).Nodup) (hb:Rd w0 (zO [blk cg [zI c.ring,zI c.window,zI c.base,zI c.gain,zI c.least,zI c.most,zI c.slack,zI c.num,zI c.den,zI c.extra,.bool (c.curve),pt sp 0,pt p.k 0,nI fr] 77,X,zGE c p Kc]) v 1 m (zC bs)):Calls Tryz.prog 15 #[pt cg 0,.int .i64 x,v] w0 (Ret w0 (zO [blk cg [zI c.ring,zI c.window,zI c.base,zI c.gain,zI c.least,zI c.most,zI c.slack,zI c.num,zI c.den,zI c.extra,.bool (c.curve),pt sp 0,pt p.k 0,nI fr] 77,X,zGE c p Kc]) fun u N=>u = nI (zFB c (⟨σ,Kc,fr⟩ : CS) (zA bs)) ∧ ∃ (X':HA) (p':KP),N = [blk cg [zI c.ring,zI c.window,zI c.base,zI c.gain,zI c.least,zI c.most,zI c.slack,zI c.num,zI c.den,zI c.extra,.bool (c.curve),pt sp 0,pt p.k 0,nI fr] 77,X',zGE c p' (zKZ c (⟨σ,Kc,fr⟩ : CS) x (zA bs)).K] ∧ p'.k = p.k ∧ Sto sp c.keep (zC4 c.keep σ (zA bs)) X'):=by
 have ho:=hX.oks;have hkk:=hC.k;have hwf:=hC.wf;dsimp only at hkk hwf
 refine zG (F0:=[(0,pt cg 0),(1,zI x),(2,v)]) func15 rfl rfl rfl (.c (.c (.c .n))) (Mem.start hM rfl hnd) ?_
 refine go 9 [0] [18,17,0,1] (.c .z .n) ⟨rfl,?_⟩
 intro a w hs;refine zM hs (.c rfl (.c rfl .n)) call36 (.c (.s .z) .n) (zRO hX hn _ (hs.mem.del (.s .z)) (hs.mem.rd1 hb (.c (.s .z) .n))) rfl ?_;clear hs w a;rintro _ _ a w ⟨rfl,X1,rfl,hX2⟩ hs
 revert a w hs
 refine goL 7 [] [23,8,7,0,1] .n ?_
 refine ifG rfl (fun c_3=>?_) (fun c_3=>?_)
 ·
  have hz1:¬ zFB c (⟨σ,Kc,fr⟩ : CS) (zA bs) = 0:=fun h=>(by assumption:((zBi σ.l c.keep σ.floor σ.gone (zA bs):Nat):Int) ≠ 0) (by rw [show zBi σ.l c.keep σ.floor σ.gone (zA bs) = 0 from h];rfl)
  refine go 2 [] [6] .n ?_
  refine cl (·.reorder (.c (.s .z) (.c .z (.c .z .n)))) ?_
  have hK2:(zKZ c (⟨σ,Kc,fr⟩ : CS) x (zA bs)).K = Kc:=if_neg hz1
  intro a w hs;exact fin hs rfl rfl ⟨rfl,X1,p,by rw [hK2],rfl,hX2⟩
 have hz0:zFB c (⟨σ,Kc,fr⟩ : CS) (zA bs) = 0:=zCo (by assumption:((zBi σ.l c.keep σ.floor σ.gone (zA bs):Nat):Int) = 0)
 refine go 5 [0] [30,29,0,1] (.c (.s .z) .n) ⟨rfl,?_⟩
 intro a w hs;refine zM hs (.c rfl (.c rfl .n)) call31 .n (zU3 hX2 (zI0 σ.l c.keep σ.floor σ.gone (zA bs)) _ (hs.mem.del (.s .z))) rfl ?_;clear hs w a;rintro _ _ a w ⟨v4,rfl,rfl⟩ hs
 have hk5:=zMi (l:=(zC4 c.keep σ (zA bs)).l) hX2.oks (zI0 σ.l c.keep σ.floor σ.gone (zA bs))
 revert a w hs
 refine goL 4 [] [9,33,32,0,1] .n (fun g6=>?_)
 intro a w hs;refine zAe hs rfl rfl .z (.z (.c (.c (.c .n)))) (zJ rfl (zJ rfl (zJ (zL (hs.mem.del (.s .z))).isSl.one zAb))) sizeOf44 rfl ?_
 refine goL 1 [] [9,0,1] .n ?_
 intro a w hs
 refine zIB (Γ:=KP) (M0:=[blk g6 [zI ((zBo (zC4 c.keep σ (zA bs)).l (zI0 σ.l c.keep σ.floor σ.gone (zA bs))).t),zI ((zBo (zC4 c.keep σ (zA bs)).l (zI0 σ.l c.keep σ.floor σ.gone (zA bs))).tm),v4] 44,row v4 142 9 ((zBo (zC4 c.keep σ (zA bs)).l (zI0 σ.l c.keep σ.floor σ.gone (zA bs))).l.length) ((zBo (zC4 c.keep σ (zA bs)).l (zI0 σ.l c.keep σ.floor σ.gone (zA bs))).l.flatMap zBN),blk cg [zI c.ring,zI c.window,zI c.base,zI c.gain,zI c.least,zI c.most,zI c.slack,zI c.num,zI c.den,zI c.extra,.bool (c.curve),pt sp 0,pt p.k 0,nI fr] 77,X1]) (Ds:=fun gs=>[Pv 0 (pt cg 0),Pv 1 (pt cg 0),Pv 2 (pt cg 12),Pv 3 (pt p.k 0),Pv 4 (zI x),Pv 5 (pt g6 1),Pv 6 (zI ((zBo (zC4 c.keep σ (zA bs)).l (zI0 σ.l c.keep σ.floor σ.gone (zA bs))).tm)),⟨[zGE c p Kc],[],[],fun vs7=>vs7 7 = zI 0,fun vs7=>[zGE c ((gs 7).on p.k) (zVE c Kc x ((zBo (zC4 c.keep σ (zA bs)).l (zI0 σ.l c.keep σ.floor σ.gone (zA bs))).tm))],none⟩,Pv 8 (zI 0)]) [[],[],[],[],[],[],[],[7],[]] (default:KP) (by kernel_rfl) hs rfl (.c (.s (.s (.s (.s .z)))) .n) (by kernel_rfl) (fun _=>by kernel_rfl) (fun _ _=>rfl) (fun us_ us'_=>(.c (fun _=>rfl) (.c (fun _=>rfl) (.c (fun _=>rfl) (.c (fun _=>rfl) (.c (fun _=>rfl) (.c (fun _=>rfl) (.c (fun _=>rfl) (.c (fun h=>by have e7:=h 7 (by simp);simp only [e7]) (.c (fun _=>rfl) .n)))))))))) (by kernel_rfl) rfl (by kernel_rfl) (fun gs=>?_) ?_
 ·
  refine (.c ?_ (.c ?_ (.c ?_ (.c ?_ (.c ?_ (.c ?_ (.c ?_ (.g ?_ (.c ?_ .n)))))))))
  · exact zAm (m:=9) .n (fun hm0 hm hx=>.n) (by kernel_rfl) (by kernel_rfl) rfl
  · exact zAm (m:=9) (.c (k:=0) (by kernel_rfl) rfl rfl .n) (fun hm0 hm hx=>.n) (by kernel_rfl) (by kernel_rfl) rfl
  · exact zAm (m:=9) (.c (k:=1) (by kernel_rfl) rfl rfl .n) (fun hm0 hm hx=>.n) (by kernel_rfl) (by kernel_rfl) rfl
  · exact zAm (m:=9) (.c (k:=2) (by kernel_rfl) rfl rfl .n) (fun hm0 hm hx=>(.c (hm0.del (.s (.s .z))))) (by kernel_rfl) (by kernel_rfl) rfl
  · exact zAm (m:=9) .n (fun hm0 hm hx=>.n) (by kernel_rfl) (by kernel_rfl) rfl
  · exact zAm (m:=9) .n (fun hm0 hm hx=>.n) (by kernel_rfl) (by kernel_rfl) rfl
  · exact zAm (m:=9) (.c (k:=5) (by kernel_rfl) rfl rfl .n) (fun hm0 hm hx=>(.c (hm0.del .z))) (by kernel_rfl) (by kernel_rfl) rfl
  ·
   intro a_ w_ R_ rest_ vs7 hm hs ht hx
   replace hs:St _ _ _ (zO [zGE c p Kc]) [zGE c p Kc] _ _:=hs
   have hm0:=hm.mid
   replace hs:=hs.lrn (ht 3 (zK 9 _ (by kernel_rfl))) rfl rfl
   replace hs:=hs.lrn (ht 4 (zK 9 _ (by kernel_rfl))) rfl rfl
   replace hs:=hs.lrn (ht 6 (zK 9 _ (by kernel_rfl))) rfl rfl
   have hs0:=hs.bare
   refine zM hs (.c rfl (.c rfl (.c rfl .n))) call37 (.c .z .n) (zXp c p Kc x ((zBo (zC4 c.keep σ (zA bs)).l (zI0 σ.l c.keep σ.floor σ.gone (zA bs))).tm) hk hkk ⟨by omega,by omega⟩ ⟨by omega,by omega⟩ _ (hs.mem.del .z)) rfl ?_;clear hs;rintro _ _ a w ⟨rfl,kp8,rfl⟩ hs
   exact wpList_nil ⟨rfl,(kp8),_,_,hs0,(.c (.c (.c .r))),hs,rfl⟩
  intro a_ w_ R_ rest_ vs7 hm hs ht hx
  have hm0:=hm.mid
  have t7:=ht 7 (zK 9 _ (by kernel_rfl))
  have e7:_ = some (vs7 7):=t7.val rfl
  rw [show vs7 7 = zI 0 from t7.2.1] at e7
  replace hs:=hs.learn e7
  have hs0:=hs.bare
  refine zEN hs rfl rfl ?_;clear hs;intro a w hs
  exact wpList_nil ⟨rfl,_,_,hs0,(.c .r),hs,rfl⟩
 clear hs w a;intro a w vs7 gs hs hf
 replace hs:St _ _ _ _ [blk g6 [zI ((zBo (zC4 c.keep σ (zA bs)).l (zI0 σ.l c.keep σ.floor σ.gone (zA bs))).t),zI ((zBo (zC4 c.keep σ (zA bs)).l (zI0 σ.l c.keep σ.floor σ.gone (zA bs))).tm),v4] 44,row v4 142 9 ((zBo (zC4 c.keep σ (zA bs)).l (zI0 σ.l c.keep σ.floor σ.gone (zA bs))).l.length) ((zBo (zC4 c.keep σ (zA bs)).l (zI0 σ.l c.keep σ.floor σ.gone (zA bs))).l.flatMap zBN),blk cg [zI c.ring,zI c.window,zI c.base,zI c.gain,zI c.least,zI c.most,zI c.slack,zI c.num,zI c.den,zI c.extra,.bool (c.curve),pt sp 0,pt p.k 0,nI fr] 77,X1,zGE c ((gs 7).on p.k) (zVE c Kc x ((zBo (zC4 c.keep σ (zA bs)).l (zI0 σ.l c.keep σ.floor σ.gone (zA bs))).tm))] _ _:=hs
 obtain ⟨e8,q8⟩:=hf 8 (by decide)
 replace e8:_ = some (vs7 8):=e8.val rfl
 rw [show vs7 8 = zI 0 from q8] at e8
 replace hs:=hs.learn e8;clear e8 q8
 generalize (gs 7) = z9 at hs
 clear hf
 revert a w hs
 refine goE 0 [] [6] .n ?_
 refine cl (·.drop (.c (.s .z) (.c .z .n))) ?_
 have hK2:(zKZ c (⟨σ,Kc,fr⟩ : CS) x (zA bs)).K = zVE c Kc x ((zBo (zC4 c.keep σ (zA bs)).l (zI0 σ.l c.keep σ.floor σ.gone (zA bs))).tm):=if_pos hz0
 intro a w hs;exact fin hs rfl rfl ⟨by rw [hz0];rfl,X1,(z9.on p.k),by rw [hK2],rfl,hX2⟩
theorem zJb (c:zAL) (L:List RI) (u:Value) (l:List zU) (t:Int) (ht:R64 t) (most:Nat) (hl:sns L = l) (ho:Oks l most) (hw:Wfs l) (w0:World) (hM:∀ h ∈ ([row u 44 3 L.length (L.flatMap snV),rws 142 L]:List HA),h.p w0):Calls Tryz.prog 14 #[.agg #[zI c.ring,zI c.window,zI c.base,zI c.gain,zI c.least,zI c.most,zI c.slack,zI c.num,zI c.den,zI c.extra,.bool (c.curve)],.int .i64 t,u] w0 (Ret w0 (zO [row u 44 3 L.length (L.flatMap snV),rws 142 L]) fun z N=>∃ v,z = .tuple #[v,nI ((zD c l t).2)] ∧ N = [row v 52 6 (zD c l t).1.length ((zD c l t).1.flatMap zA0)]):=by
 subst hl
 have h:=zUZ c L u t ht w0 (zaN (hM (rws 142 L) (by simp)) ho hw) (zL (hM (row u 44 3 L.length (L.flatMap snV)) (by simp)))
 rw [zS8] at h
 exact h.mono (fun e w ⟨z,N,h1,h2,h3⟩=>⟨z,N,h1,h2,h3.wide⟩)
theorem zSe (c:zAL) (cg sp:Nat) (p:KP) (fr:Nat) (σ:Stt) (Kc:KS) (X:HA) (x:Int) (hk:zCm c = 0) (hC:CS.ok c ⟨σ,Kc,fr⟩) (hX:Sto sp c.keep σ X) (hn:∀ i,σ.n i ≤ 1000000) (hfr:fr ≤ 1000000) (hx : -9223372036854775808 ≤ x ∧ x ≤ 9223372036854775807) (w0:World) (hM:∀ h ∈ ([blk cg [zI c.ring,zI c.window,zI c.base,zI c.gain,zI c.least,zI c.most,zI c.slack,zI c.num,zI c.den,zI c.extra,.bool (c.curve),pt sp 0,pt p.k 0,nI fr] 77,X,zGE c p Kc]:List HA),h.p w0) (hnd:(zO [blk cg [zI c.ring,zI c.window,zI c.base,zI c.gain,zI c.least,zI c.most,zI c.slack,zI c.num,zI c.den,zI c.extra,.bool (c.curve),pt sp 0,pt p.k 0,nI fr] 77,X,zGE c p Kc]).Nodup):Calls Tryz.prog 22 #[pt cg 0,.int .i64 x] w0 (Ret w0 (zO [blk cg [zI c.ring,zI c.window,zI c.base,zI c.gain,zI c.least,zI c.most,zI c.slack,zI c.num,zI c.den,zI c.extra,.bool (c.curve),pt sp 0,pt p.k 0,nI fr] 77,X,zGE c p Kc]) fun u N=>∃ (v:Value) (p':KP),u = .agg #[.bool (zCD c (⟨σ,Kc,fr⟩ : CS) x).ready,zI (zCD c (⟨σ,Kc,fr⟩ : CS) x).time,v] ∧ N = [row v 52 6 (zCD c (⟨σ,Kc,fr⟩ : CS) x).l.length ((zCD c (⟨σ,Kc,fr⟩ : CS) x).l.flatMap zA0),blk cg [zI c.ring,zI c.window,zI c.base,zI c.gain,zI c.least,zI c.most,zI c.slack,zI c.num,zI c.den,zI c.extra,.bool (c.curve),pt sp 0,pt p.k 0,nI (fr + 1)] 77,X,zGE c p' (zKT c Kc x)] ∧ p'.k = p.k):=by
 have ho:=hX.oks;have hkk:=hC.k;have hwf:=hC.wf;dsimp only at hkk hwf
 refine zG (F0:=[(0,pt cg 0),(1,zI x)]) func22 rfl rfl rfl (.c (.c .n)) (Mem.start hM rfl hnd) ?_
 refine go 7 [] [14,12,4,0,1] .n (fun g1=>?_)
 refine go 2 [0] [16,12,4,0,1] (.c (.s .z) .n) ⟨rfl,(by omega),?_⟩
 have hv_:(((fr:Nat):Int) + 1:Int) = (((fr + 1:Nat):Int):Int):=by omega
 intro a w hs;rw [hv_] at hs;clear hv_
 revert a w hs
 refine go 8 [0,0] [24,23,4,0] (.c .z .n) ⟨rfl,rfl,?_⟩
 intro a w hs;refine zM hs (.c rfl (.c rfl .n)) call51 (.c (.s (.s (.s .z))) .n) (zXk c p Kc x hk hkk ⟨by omega,by omega⟩ _ (hs.mem.del (.s (.s (.s .z))))) rfl ?_;clear hs w a;rintro _ _ a w ⟨rfl,kp2,rfl⟩ hs
 revert a w hs
 refine goL 7 [] [29,5,4,0] .n ?_
 refine ifG rfl (fun c_3=>?_) (fun c_3=>?_)
 ·
  refine go 2 [0] [4] (.c (.s (.s .z)) .n) ⟨rfl,?_⟩
  have hS:(zCD c (⟨σ,Kc,fr⟩ : CS) x) = ⟨false,0,[]⟩:=if_neg (show ¬ 0 < Kc.l2.length by assumption)
  refine cl (·.addNil 52 6) ?_
  intro a w hs;replace hs:=hs.rerow .z (m':=(zCD c (⟨σ,Kc,fr⟩ : CS) x).l.length) (xs':=((zCD c (⟨σ,Kc,fr⟩ : CS) x).l.flatMap zA0)) (by rw [hS];rfl) (by rw [hS];rfl)
  replace hs:=hs.reorder (.c .z (.c (.s (.s .z)) (.c (.s (.s .z)) (.c (.s .z) (.c .z .n)))))
  exact zLe hs rfl rfl (.s (.s (.s (.s .z)))) (.z (.c (.c (.c .n)))) isAgg36 sizeOf36 (.c (.s (.s (.s (.s .z)))) .n) ⟨.slice none 0 0,(kp2.on p.k),by rw [hS],rfl,rfl⟩
 have htr:=zZY (c:=c) (K:=Kc) hx hkk
 refine go 0 [] [5,4,0] .n ?_
 intro a w hs
 refine zIB (Γ:=Value × List RI) (M0:=[zGE c (kp2.on p.k) (zKT c Kc x),blk cg [zI c.ring,zI c.window,zI c.base,zI c.gain,zI c.least,zI c.most,zI c.slack,zI c.num,zI c.den,zI c.extra,.bool (c.curve),pt sp 0,pt p.k 0,zI (((fr:Nat):Int) + 1)] 77,blk g1 [.bool (false),zI 0,.slice none 0 0] 36,X]) (Ds:=fun gs=>[Pv 0 (pt cg 0),Pv 1 (pt cg 0),Pv 2 (pt cg 0),Pv 3 (.agg #[zI c.ring,zI c.window,zI c.base,zI c.gain,zI c.least,zI c.most,zI c.slack,zI c.num,zI c.den,zI c.extra,.bool (c.curve)]),Pv 4 (zI (kTm c Kc x)),Pv 5 (pt cg 0),⟨[],[],[],fun vs4=>vs4 6 = ((gs 6).1) ∧ sns ((gs 6).2) = σ.l,fun vs4=>[row ((gs 6).1) 44 3 (((gs 6).2).length) (((gs 6).2).flatMap snV),rws 142 ((gs 6).2)],none⟩,⟨[],[6],[],fun vs4=>vs4 7 = .tuple #[(zFb (vs4 7)),nI ((zD c σ.l (kTm c Kc x)).2)],fun vs4=>[row (zFb (vs4 7)) 52 6 ((zD c σ.l (kTm c Kc x)).1.length) ((zD c σ.l (kTm c Kc x)).1.flatMap zA0)],none⟩,⟨[],[],[7],fun vs4=>vs4 8 = .tuple #[(zFb (vs4 7)),nI ((zD c σ.l (kTm c Kc x)).2)],fun vs4=>[],none⟩,⟨[],[],[7],fun vs4=>vs4 9 = (zFb (vs4 7)),fun vs4=>[],none⟩,Pv 10 (nI ((zD c σ.l (kTm c Kc x)).2)),⟨[],[],[7],fun vs4=>vs4 11 = (zFb (vs4 7)),fun vs4=>[],none⟩,Pv 12 (nI ((zD c σ.l (kTm c Kc x)).2))]) [[],[],[],[],[],[],[6],[],[],[],[],[],[]] ((.slice none 0 0:Value),(default:List RI)) (by kernel_rfl) hs rfl .n (by kernel_rfl) (fun _=>by kernel_rfl) (fun _ _=>rfl) (fun us_ us'_=>(.c (fun _=>rfl) (.c (fun _=>rfl) (.c (fun _=>rfl) (.c (fun _=>rfl) (.c (fun _=>rfl) (.c (fun _=>rfl) (.c (fun h=>by have e6:=h 6 (by simp);simp only [e6]) (.c (fun _=>rfl) (.c (fun _=>rfl) (.c (fun _=>rfl) (.c (fun _=>rfl) (.c (fun _=>rfl) (.c (fun _=>rfl) .n)))))))))))))) (by kernel_rfl) rfl (by kernel_rfl) (fun gs=>?_) ?_
 ·
  refine (.c ?_ (.c ?_ (.c ?_ (.c ?_ (.c ?_ (.c ?_ (.g ?_ (.c ?_ (.c ?_ (.c ?_ (.c ?_ (.c ?_ (.c ?_ .n)))))))))))))
  · exact zAm (m:=13) .n (fun hm0 hm hx=>.n) (by kernel_rfl) (by kernel_rfl) rfl
  · exact zAm (m:=13) (.c (k:=0) (by kernel_rfl) rfl rfl .n) (fun hm0 hm hx=>.n) (by kernel_rfl) (by kernel_rfl) rfl
  · exact zAm (m:=13) (.c (k:=1) (by kernel_rfl) rfl rfl .n) (fun hm0 hm hx=>.n) (by kernel_rfl) (by kernel_rfl) rfl
  · exact zAm (m:=13) (.c (k:=2) (by kernel_rfl) rfl rfl .n) (fun hm0 hm hx=>(.c (hm0.del (.s .z)))) (by kernel_rfl) (by kernel_rfl) rfl
  · exact zAm (m:=13) .n (fun hm0 hm hx=>.n) (by kernel_rfl) (by kernel_rfl) rfl
  · exact zAm (m:=13) .n (fun hm0 hm hx=>.n) (by kernel_rfl) (by kernel_rfl) rfl
  ·
   intro a_ w_ R_ rest_ vs4 hm hs ht hx
   have hm0:=hm.mid
   replace hs:=hs.lrn (ht 5 (zK 13 _ (by kernel_rfl))) rfl rfl
   have hs0:=hs.bare
   refine zM hs (.c rfl .n) call30 .n (zKP c cg sp p _ σ _ hX _ (hm0.del (.s .z)) (hm0.del (.s (.s (.s .z))))) rfl ?_;clear hs;rintro u5 _ a w ⟨L6,hL7,rfl⟩ hs
   exact wpList_nil ⟨rfl,(u5,L6),_,_,hs0,(.c .r),hs,⟨rfl,hL7⟩⟩
  ·
   intro a_ w_ R_ rest_ vs4 hm hs ht hx
   replace hs:St _ _ _ (zO [row ((gs 6).1) 44 3 (((gs 6).2).length) (((gs 6).2).flatMap snV),rws 142 ((gs 6).2)]) [row ((gs 6).1) 44 3 (((gs 6).2).length) (((gs 6).2).flatMap snV),rws 142 ((gs 6).2)] _ _:=hs
   have hm0:=hm.mid
   replace hs:=hs.lrn (ht 3 (zK 13 _ (by kernel_rfl))) rfl rfl
   replace hs:=hs.lrn (ht 4 (zK 13 _ (by kernel_rfl))) rfl rfl
   have t6:=ht 6 (zK 13 _ (by kernel_rfl))
   have e6:_ = some (vs4 6):=t6.val rfl
   rw [show vs4 6 = ((gs 6).1) from t6.2.1.1] at e6
   have hL7:sns ((gs 6).2) = σ.l:=t6.2.1.2
   replace hs:=hs.learn e6
   have hs0:=hs.bare
   refine zM hs (.c rfl (.c rfl (.c rfl .n))) call14 (.c .z (.c .z .n)) (zJb c ((gs 6).2) ((gs 6).1) σ.l (kTm c Kc x) htr _ (by assumption) ho hwf _ (hs.mem.allX (.c .z (.c .z .n)))) rfl ?_;clear hs;rintro _ _ a w ⟨v8,rfl,rfl⟩ hs
   exact wpList_nil ⟨rfl,_,_,hs0,(.c (.c (.c .r))),hs,rfl⟩
  ·
   intro a_ w_ R_ rest_ vs4 hm hs ht hx
   have hm0:=hm.mid
   have t7:=ht 7 (zK 13 _ (by kernel_rfl))
   have e7:_ = some (vs4 7):=t7.val rfl
   rw [show vs4 7 = .tuple #[(zFb (vs4 7)),nI ((zD c σ.l (kTm c Kc x)).2)] from t7.2.1] at e7
   replace hs:=hs.learn e7
   have hs0:=hs.bare
   refine zFl hs rfl rfl ?_;clear hs;intro a w hs
   exact wpList_nil ⟨rfl,_,_,hs0,(.c .r),hs,rfl⟩
  ·
   intro a_ w_ R_ rest_ vs4 hm hs ht hx
   have hm0:=hm.mid
   have t8:=ht 8 (zK 13 _ (by kernel_rfl))
   have e8:_ = some (vs4 8):=t8.val rfl
   rw [show vs4 8 = .tuple #[(zFb (vs4 7)),nI ((zD c σ.l (kTm c Kc x)).2)] from t8.2.1] at e8
   replace hs:=hs.learn e8
   have hs0:=hs.bare
   refine zG1 hs rfl .z rfl ?_;clear hs;intro a w hs
   exact wpList_nil ⟨rfl,_,_,hs0,(.c .r),hs,rfl⟩
  ·
   intro a_ w_ R_ rest_ vs4 hm hs ht hx
   have hm0:=hm.mid
   have t8:=ht 8 (zK 13 _ (by kernel_rfl))
   have e8:_ = some (vs4 8):=t8.val rfl
   rw [show vs4 8 = .tuple #[(zFb (vs4 7)),nI ((zD c σ.l (kTm c Kc x)).2)] from t8.2.1] at e8
   replace hs:=hs.learn e8
   have hs0:=hs.bare
   refine zG1 hs rfl (.s .z) rfl ?_;clear hs;intro a w hs
   exact wpList_nil ⟨rfl,_,_,hs0,(.c .r),hs,rfl⟩
  ·
   intro a_ w_ R_ rest_ vs4 hm hs ht hx
   have hm0:=hm.mid
   have t9:=ht 9 (zK 13 _ (by kernel_rfl))
   have e9:_ = some (vs4 9):=t9.val rfl
   rw [show vs4 9 = (zFb (vs4 7)) from t9.2.1] at e9
   replace hs:=hs.learn e9
   have hs0:=hs.bare
   refine zEN hs rfl rfl ?_;clear hs;intro a w hs
   exact wpList_nil ⟨rfl,_,_,hs0,(.c .r),hs,rfl⟩
  exact zAm (m:=13) (.c (k:=10) (by kernel_rfl) rfl rfl .n) (fun hm0 hm hx=>.n) (by kernel_rfl) (by kernel_rfl) rfl
 clear hs w a;intro a w vs4 gs hs hf
 replace hs:St _ _ _ _ [zGE c (kp2.on p.k) (zKT c Kc x),blk cg [zI c.ring,zI c.window,zI c.base,zI c.gain,zI c.least,zI c.most,zI c.slack,zI c.num,zI c.den,zI c.extra,.bool (c.curve),pt sp 0,pt p.k 0,zI (((fr:Nat):Int) + 1)] 77,blk g1 [.bool (false),zI 0,.slice none 0 0] 36,X,row (zFb (vs4 7)) 52 6 ((zD c σ.l (kTm c Kc x)).1.length) ((zD c σ.l (kTm c Kc x)).1.flatMap zA0)] _ _:=hs
 obtain ⟨e6,q6⟩:=hf 6 (by decide)
 replace e6:_ = some (vs4 6):=e6.val rfl
 obtain ⟨q6,hL7⟩:=q6
 rw [show vs4 6 = ((gs 6).1) from q6] at e6
 replace hs:=hs.learn e6;clear e6 q6
 obtain ⟨e11,q11⟩:=hf 11 (by decide)
 replace e11:_ = some (vs4 11):=e11.val rfl
 rw [show vs4 11 = (zFb (vs4 7)) from q11] at e11
 replace hs:=hs.learn e11;clear e11 q11
 generalize ((gs 6).1) = v9 at hs
 generalize ((gs 6).2) = z10 at hs hL7
 generalize zFb (vs4 7) = v11 at hs
 clear hf
 revert a w hs
 refine goE 2 [] [43,42,4] .n ?_
 intro a w hs;refine zHJ (it:=Tryz.t36) (zs:=[.bool (false),zI 0,.slice none 0 0]) (places:=[(0,1),(1,1),(2,1)]) hs (.c rfl (.c rfl (.c rfl .n))) underlying36 rfl rfl rfl rfl (.c rfl rfl (.z (.c .n)) (.c rfl rfl (.s (.z (.c .n))) (.c rfl (zL (hs.mem.del (.s (.s (.s (.s .z)))))).isSl.lcells (.s (.s (.z (.c .n)))) .n))) rfl ?_
 intro a w hs;refine zAe hs rfl rfl (.s (.s .z)) (.z (.c (.c (.c .n)))) (zJ rfl (zJ rfl (zJ (zL (hs.mem.del (.s (.s (.s (.s .z)))))).isSl.one zAb))) sizeOf36 rfl ?_
 refine goL 0 [] [4] .n ?_
 have hS:(zCD c (⟨σ,Kc,fr⟩ : CS) x) = ⟨true,kTm c Kc x,(zD c σ.l (kTm c Kc x)).1⟩:=if_pos (show 0 < Kc.l2.length by assumption)
 refine cl (·.rerow (.s (.s (.s (.s .z)))) (m':=(zCD c (⟨σ,Kc,fr⟩ : CS) x).l.length) (xs':=((zCD c (⟨σ,Kc,fr⟩ : CS) x).l.flatMap zA0)) (by rw [hS]) (by rw [hS])) ?_
 refine cl (·.reorder (.c .z (.c (.s (.s .z)) (.c (.s (.s .z)) (.c (.s .z) (.c .z .n)))))) ?_
 intro a w hs;exact zLe hs rfl rfl (.s (.s (.s (.s .z)))) (.z (.c (.c (.c .n)))) isAgg36 sizeOf36 (.c (.s (.s (.s (.s .z)))) .n) ⟨v11,(kp2.on p.k),by rw [hS],rfl,rfl⟩
def Cli (g:Nat) (c:zAL) (C:CS) (Y:HA):Prop:=∃ (sp:Nat) (p:KP) (X:HA),Sto sp c.keep C.σ X ∧ Y = zFu [(blk g [zI c.ring,zI c.window,zI c.base,zI c.gain,zI c.least,zI c.most,zI c.slack,zI c.num,zI c.den,zI c.extra,.bool (c.curve),pt sp 0,pt p.k 0,nI C.fr] 77),X,zGE c p C.K]
theorem zRR (c:zAL) (hk:zCm c = 0) (w0:World):Calls Tryz.prog 25 #[.int .i64 c.ring] w0 (Ret w0 [] fun z N=>∃ p X,z = .tuple #[pt p 0,.int .i64 0] ∧ N = [X] ∧ Sto p c.keep zZv X):=by
 obtain ⟨h1,h2,h3⟩:=zLQ hk
 have h:=zYo c.keep w0 ⟨h2,h3⟩
 rw [show nI c.keep = .int .i64 c.ring from congrArg (Value.int .i64) h1] at h
 exact h
theorem zUI (c:zAL) (hk:zCm c ≠ 0) (w0:World):Calls Tryz.prog 8 #[.agg #[zI c.ring,zI c.window,zI c.base,zI c.gain,zI c.least,zI c.most,zI c.slack,zI c.num,zI c.den,zI c.extra,.bool (c.curve)]] w0 (zAj w0 (.tuple #[.pointer none,nI (zCm c)])):=by
 refine zG (F0:=[(0,.agg #[zI c.ring,zI c.window,zI c.base,zI c.gain,zI c.least,zI c.most,zI c.slack,zI c.num,zI c.den,zI c.extra,.bool (c.curve)])]) func8 rfl rfl rfl (.c .n) (Mem.nil _) ?_
 refine go 4 [0,0] [8,1] .n (fun g1=>⟨rfl,?_⟩)
 intro a w hs;refine zB (v:=.tuple #[.pointer none,nI (zCm c)]) hs (.c rfl .n) call24 (zTF c hk _) rfl ?_
 refine goL 7 [] [13,5,4,1] .n ?_
 refine ifG rfl (fun c_2=>?_) (fun c_2=>?_)
 ·
  refine go 3 [] [3,2] .n ?_
  refine cl (·.drop (.c .z .n)) ?_
  intro a w hs;exact zBO hs rfl rfl rfl ⟨rfl,rfl⟩
 exfalso;omega
theorem zR1 (c:zAL) (hk:zCm c = 0) (w0:World):Calls Tryz.prog 8 #[.agg #[zI c.ring,zI c.window,zI c.base,zI c.gain,zI c.least,zI c.most,zI c.slack,zI c.num,zI c.den,zI c.extra,.bool (c.curve)]] w0 (Ret w0 [] fun u N=>∃ (g:Nat) (Y:HA),u = .tuple #[pt g 0,.int .i64 0] ∧ N = [Y] ∧ Cli g c (C0 c) Y):=by
 refine zG (F0:=[(0,.agg #[zI c.ring,zI c.window,zI c.base,zI c.gain,zI c.least,zI c.most,zI c.slack,zI c.num,zI c.den,zI c.extra,.bool (c.curve)])]) func8 rfl rfl rfl (.c .n) (Mem.nil _) ?_
 refine go 4 [0,0] [8,1] .n (fun g1=>⟨rfl,?_⟩)
 intro a w hs;refine zM hs (.c rfl .n) call24 .n (zYC c hk _) rfl ?_;clear hs w a;rintro _ _ a w ⟨kp2,rfl,rfl⟩ hs
 revert a w hs
 refine goL 10 [0] [17,4,1] (.c (.s .z) .n) ⟨rfl,?_⟩
 intro a w hs;refine zM hs (.c rfl .n) call25 .n (zRR c hk _) rfl ?_;clear hs w a;rintro _ _ a w ⟨g3,X4,rfl,rfl,hX5⟩ hs
 revert a w hs
 refine goL 15 [0,0] [3,2] (.c (.s .z) .n) ⟨rfl,fun g6=>?_⟩
 refine cl (·.drop (.c (.s .z) .n)) ?_
 intro a w hs;replace hs:=hs.memTo hs.mem.sep
 exact zBO hs rfl rfl rfl ⟨g6,_,rfl,rfl,g3,kp2,X4,hX5,rfl⟩
theorem zQ6 (c:zAL) (cg sp:Nat) (p:KP) (fr:Nat) (σ:Stt) (Kc:KS) (X:HA) (hX:Sto sp c.keep σ X) (k:Int) (w0:World) (hcg:(blk cg [zI c.ring,zI c.window,zI c.base,zI c.gain,zI c.least,zI c.most,zI c.slack,zI c.num,zI c.den,zI c.extra,.bool (c.curve),pt sp 0,pt p.k 0,nI fr] 77).p w0) (hXp:X.p w0) (hKp:(zGE c p Kc).p w0):Calls Tryz.prog 13 #[pt cg 0,.int .i64 k] w0 (Ret w0 [] fun z N=>∃ v,z = .tuple #[.agg #[zI (zBo σ.l k).t,zI (zBo σ.l k).tm,v],.bool (zDU σ.l k)] ∧ N = [row v 142 9 (zBo σ.l k).l.length ((zBo σ.l k).l.flatMap zBN)]):=by
 refine zG (F0:=[(0,pt cg 0),(1,zI k)]) func13 rfl rfl rfl (.c (.c .n)) (Mem.nil _) ?_
 refine go 8 [] [11,4,1] .n (fun g1=>?_)
 intro a w hs;refine zX hs rfl (hs.mem.keep hcg (by simp [zO,blk])) (.s (.s (.s (.s (.s (.s (.s (.s (.s (.s (.s .z))))))))))) isAgg73 rfl ?_
 refine goL 1 [] [13,12,4] .n ?_
 intro a w hs;refine zM hs (.c rfl (.c rfl .n)) call31 .n (zU3 hX k _ (hs.mem.keepH hXp (by simp))) rfl ?_;clear hs w a;rintro _ _ a w ⟨v2,rfl,rfl⟩ hs
 revert a w hs
 refine goL 2 [] [16,15,4] .n ?_
 intro a w hs;refine zAe hs rfl rfl (.s .z) (.z (.c (.c (.c .n)))) (zJ rfl (zJ rfl (zJ (zL (hs.mem.del .z)).isSl.one zAb))) sizeOf44 rfl ?_
 refine goL 1 [] [5,4] .n ?_
 intro a w hs;exact zBd hs rfl rfl rfl .z (.z (.c (.c (.c .n)))) isAgg44 sizeOf44 (.c .z .n) ⟨_,rfl,rfl⟩
theorem zRc (c:zAL) (cg sp:Nat) (p:KP) (fr:Nat) (σ:Stt) (Kc:KS) (X:HA) (hX:Sto sp c.keep σ X) (w0:World) (hcg:(blk cg [zI c.ring,zI c.window,zI c.base,zI c.gain,zI c.least,zI c.most,zI c.slack,zI c.num,zI c.den,zI c.extra,.bool (c.curve),pt sp 0,pt p.k 0,nI fr] 77).p w0) (hXp:X.p w0) (hKp:(zGE c p Kc).p w0):Calls Tryz.prog 12 #[pt cg 0] w0 (Ret w0 [] fun z N=>N = [row z 2 1 σ.l.length (iV (σ.l.map zU.t))]):=by
 have ho:=hX.oks;have ho1:=ho.le;have ho2:=ho.m64
 refine zG (F0:=[(0,pt cg 0)]) func12 rfl rfl rfl (.c .n) (Mem.nil _) ?_
 refine go 6 [] [8,3] .n ?_
 intro a w hs;refine zM hs (.c rfl .n) call30 .n (zKP c cg sp p _ σ _ hX _ (hs.mem.keep hcg (by simp [zO,blk])) (hs.mem.keepH hXp (by simp))) rfl ?_;clear hs w a;rintro u1 _ a w ⟨L2,hL3,rfl⟩ hs
 refine zAD hs rfl (zL (hs.mem.del .z)).isSl underlying39 rfl ?_
 refine goL 1 [] [11,10,9,3] .n ?_
 intro a w hs;have hivL:=zEo (hs.mem.del (.s .z))
 have hlL:L2.length = σ.l.length:=by rw [← zAH,(by assumption:sns L2 = σ.l)]
 replace hs:=hs.addNil 2 1
 replace hs:=hs.rerow .z (m':=0) (xs':=(iV ((L2.take 0).map RI.t))) (rfl) (rfl)
 refine zCL (fun mm_ a w=>∃ j:Nat,∃ z:Value,mm_ = L2.length - j ∧ St 22 [(3,z),(9,u1),(10,nI L2.length),(11,zI (j:Int))] w0 [] [row z 2 1 j (iV ((L2.take j).map RI.t)),row u1 44 3 L2.length (L2.flatMap snV),rws 142 L2] a w ∧ j ≤ L2.length) ⟨0,.slice none 0 0,rfl,hs.sub (.c rfl (.c rfl (.c rfl (.c rfl .n)))),by omega⟩ ?_
 clear hs w a;rintro mm_ a w ⟨j,z,rfl,hs,hI1_0⟩
 revert a w hs
 refine go 1 [] [12,3,9,10,11] .n ?_
 refine ifG rfl (fun c_4=>?_) (fun c_4=>?_)
 ·
  refine go 0 [] [3,9,10,11] .n ?_
  intro a w hs;refine zBL (j:=j) hs rfl rfl (zL (hs.mem.del (.s .z))) rfl (by omega) underlying39 sizeOf44 rfl ?_
  intro a w hs;refine zBA (cs:=snV (L2.getD j default)) hs rfl (zL (hs.mem.del (.s .z))) (zAT zB2 L2 j (by omega)) (by rw [zAN zB2];omega) (by omega) isAgg44 sizeOf44 rfl ?_
  refine goL 6 [50,0] [18,15,9,10,11] .n (fun g5=>⟨rfl,(zJ rfl (zJ rfl (zJ (hivL _ (zFT (by omega))).one zAb))),rfl,fun g6=>?_⟩)
  intro a w hs;refine zBF (size:=1) (bytes:=8) hs rfl rfl (.s (.s .z)) (zAJ (m:=1) (size:=1) (hs.mem.del .z) rfl (by decide)) (by simp [Value.oneCell']) underlying40 (i:=Tryz.t2) rfl rfl rfl rfl rfl (by decide) (by omega) (by simp only [maxLen];omega) rfl ?_;intro v7
  refine cl (·.drop (.c (.s .z) .n)) ?_
  refine goL 3 [] [11,3,9,10] .n ⟨(by omega),?_⟩
  refine cl (·.rerow .z (m':=(j + 1)) (xs':=(iV ((L2.take (j + 1)).map RI.t))) (rfl) (zTL (by omega))) ?_
  refine cl (·.drop (.c (.s .z) .n)) ?_
  intro a w hs;refine ⟨_,?_,(j + 1),v7,rfl,hs.sub (.c rfl (.c rfl (.c rfl (.c rfl .n)))),by omega⟩
  omega
 refine go 2 [] [2] .n ?_
 refine cl (·.drop (.c (.s (.s .z)) (.c (.s .z) .n))) ?_
 refine cl (·.rerow .z (m':=σ.l.length) (xs':=(iV (σ.l.map zU.t))) (by omega) (by rw [← zSu (by assumption:sns L2 = σ.l),List.take_of_length_le (by omega)])) ?_
 intro a w hs;exact fin hs rfl rfl rfl
theorem zLm {g:Nat} {c:zAL} {C:CS} {Y:HA} (hY:Cli g c C Y) (hk:zCm c = 0) (hC:C.ok c) (hn:∀ i,C.σ.n i ≤ 1000000) (hfr:C.fr ≤ 1000000) (x:Int) (hx:R64 x) {v:Value} {m:Nat} {bs:List zQ} (w0:World) (hp:Y.p w0) (hb:Rd w0 (zO [Y]) v 1 m (zC bs)):Calls Tryz.prog 15 #[pt g 0,.int .i64 x,v] w0 (Ret w0 (zO [Y]) fun u N=>u = nI (zFB c C (zA bs)) ∧ ∃ Y',N = [Y'] ∧ Cli g c (zKZ c C x (zA bs)) Y'):=by
 obtain ⟨sp,p,X,hX,rfl⟩:=hY;obtain ⟨σ,Kc,fr⟩:=C;obtain ⟨hall,hnd⟩:=hp
 rw [zBs] at hb ⊢
 refine (zSl c g sp p fr σ Kc X x v m bs hk hC hX hn hfr hx w0 hall hnd hb).mono ?_
 rintro e w ⟨u,N,rfl,⟨rfl,X',p',rfl,h1,h2⟩,hM⟩
 exact ⟨_,_,rfl,⟨rfl,_,rfl,sp,p',X',h2,by rw [h1];rfl⟩,hM.sep⟩
theorem zRN {g:Nat} {c:zAL} {C:CS} {Y:HA} (hY:Cli g c C Y) (hk:zCm c = 0) (hC:C.ok c) (hn:∀ i,C.σ.n i ≤ 1000000) (hfr:C.fr ≤ 1000000) (x:Int) (hx:R64 x) (w0:World) (hp:Y.p w0):Calls Tryz.prog 22 #[pt g 0,.int .i64 x] w0 (Ret w0 (zO [Y]) fun u N=>∃ v,u = .agg #[.bool (zCD c C x).ready,zI (zCD c C x).time,v] ∧ ∃ Y',N = [row v 52 6 (zCD c C x).l.length ((zCD c C x).l.flatMap zA0),Y'] ∧ Cli g c (zLf c C x) Y'):=by
 obtain ⟨sp,p,X,hX,rfl⟩:=hY;obtain ⟨σ,Kc,fr⟩:=C;obtain ⟨hall,hnd⟩:=hp
 rw [zBs]
 refine (zSe c g sp p fr σ Kc X x hk hC hX hn hfr hx w0 hall hnd).mono ?_
 rintro e w ⟨u,N,rfl,⟨v,p',rfl,rfl,h1⟩,hM⟩
 exact ⟨_,_,rfl,⟨v,rfl,_,rfl,sp,p',X,hX,by rw [h1];rfl⟩,Mem.resep (A:=[row v 52 6 _ _]) hM⟩
theorem zMu {g:Nat} {c:zAL} {C:CS} {Y:HA} (hY:Cli g c C Y) (w0:World) (hp:Y.p w0):Calls Tryz.prog 12 #[pt g 0] w0 (Ret w0 [] fun z N=>N = [row z 2 1 C.σ.l.length (iV (C.σ.l.map zU.t))]):=by
 obtain ⟨sp,p,X,hX,rfl⟩:=hY;obtain ⟨σ,Kc,fr⟩:=C;obtain ⟨hall,hnd⟩:=hp
 exact zRc c g sp p fr σ Kc X hX w0 (hall _ (by simp)) (hall _ (by simp)) (hall _ (by simp))
theorem zM9 {g:Nat} {c:zAL} {C:CS} {Y:HA} (hY:Cli g c C Y) (k:Int) (w0:World) (hp:Y.p w0):Calls Tryz.prog 13 #[pt g 0,.int .i64 k] w0 (Ret w0 [] fun z N=>∃ v,z = .tuple #[.agg #[zI (zBo C.σ.l k).t,zI (zBo C.σ.l k).tm,v],.bool (zDU C.σ.l k)] ∧ N = [row v 142 9 (zBo C.σ.l k).l.length ((zBo C.σ.l k).l.flatMap zBN)]):=by
 obtain ⟨sp,p,X,hX,rfl⟩:=hY;obtain ⟨σ,Kc,fr⟩:=C;obtain ⟨hall,hnd⟩:=hp
 exact zQ6 c g sp p fr σ Kc X hX k w0 (hall _ (by simp)) (hall _ (by simp)) (hall _ (by simp))
end Go.Proofs.YtemnjodhidlfpaaGreat
/- Walks of what an event does: what each function does, over the program of this seat. Printed by a program of this session. -/
namespace Go.Proofs.YtemnjodhidlfpaaGreat
open Tryz
open Go Go.Sx Go.RowKit
set_option linter.unusedVariables false
set_option linter.unusedSimpArgs false
set_option maxRecDepth 4000
set_option maxHeartbeats 1000000

theorem Cli.nd {g:Nat} {c:zAL} {C:CS} {Y:HA} {w:World} (h:Cli g c C Y) (hp:Y.p w):(zO [Y]).Nodup:=by obtain ⟨_,_,_,_,rfl⟩:=h;rw [zBs];exact hp.2
theorem zO2 {g:Nat} {c:zAL} {C:CS} {Y:HA} (hY:Cli g c C Y) (hk:zCm c = 0) (hC:C.ok c) (hn:∀ i,C.σ.n i ≤ 1000000) (hfr:C.fr ≤ 1000000) (xe:EvR) (hx:R64 xe.at_) (w0:World) (hp:Y.p w0) (hb:Rd w0 (zO [Y]) xe.v 1 xe.bs.length (zC xe.bs)):Calls Tryz.prog 28 #[pt g 0,.agg #[zI xe.k,zI xe.at_,xe.v]] w0 (Ret w0 (zO [Y]) fun u N=>∃ v,u = .tuple #[.agg #[.bool (⟨false,0,[]⟩ : ShR).ready,zI (⟨false,0,[]⟩ : ShR).time,v],nI (zFB c C (zA xe.bs))] ∧ ∃ Y',N = [row v 52 6 (⟨false,0,[]⟩ : ShR).l.length ((⟨false,0,[]⟩ : ShR).l.flatMap zA0),Y'] ∧ Cli g c (zKZ c C xe.at_ (zA xe.bs)) Y'):=by
 refine zG (F0:=[(0,pt g 0),(1,.agg #[zI xe.k,zI xe.at_,xe.v])]) func28 rfl rfl rfl (.c (.c .n)) (zAl hp (by simpa [zO] using Cli.nd hY hp)) ?_
 refine go 9 [0,1,1] [11,9,7,6,4] .n (fun g1=>fun g2=>⟨rfl,rfl,?_⟩)
 intro a w hs;refine zM hs (.c rfl (.c rfl (.c rfl .n))) call15 (.c (.s (.s .z)) .n) (zLm hY hk hC hn hfr xe.at_ ⟨by omega,by omega⟩ _ (hs.mem.del (.s (.s .z))) (hs.mem.rd1 hb (.c (.s (.s .z)) .n))) rfl ?_;clear hs w a;rintro _ _ a w ⟨rfl,Y3,rfl,hY4⟩ hs
 revert a w hs
 refine goL 2 [0] [5,4] (.c (.s .z) .n) ⟨rfl,?_⟩
 refine cl (·.addNil 52 6) ?_
 refine cl (·.drop (.c (.s (.s (.s .z))) .n)) ?_
 refine cl (·.reorder (.c .z (.c (.s .z) (.c .z .n)))) ?_
 intro a w hs;exact zBd hs rfl rfl rfl (.s (.s .z)) (.z (.c (.c (.c .n)))) isAgg36 sizeOf36 (.c (.s (.s .z)) .n) ⟨_,rfl,_,rfl,hY4⟩
theorem zRh {g:Nat} {c:zAL} {C:CS} {Y:HA} (hY:Cli g c C Y) (hk:zCm c = 0) (hC:C.ok c) (hn:∀ i,C.σ.n i ≤ 1000000) (hfr:C.fr ≤ 1000000) (xe:EvR) (hx:R64 xe.at_) (w0:World) (hp:Y.p w0) (hb:Rd w0 (zO [Y]) xe.v 1 xe.bs.length (zC xe.bs)):Calls Tryz.prog 29 #[pt g 0,.agg #[zI xe.k,zI xe.at_,xe.v]] w0 (Ret w0 (zO [Y]) fun u N=>∃ v,u = .tuple #[.agg #[.bool (zCD c C xe.at_).ready,zI (zCD c C xe.at_).time,v],nI 0] ∧ ∃ Y',N = [row v 52 6 (zCD c C xe.at_).l.length ((zCD c C xe.at_).l.flatMap zA0),Y'] ∧ Cli g c (zLf c C xe.at_) Y'):=by
 refine zG (F0:=[(0,pt g 0),(1,.agg #[zI xe.k,zI xe.at_,xe.v])]) func29 rfl rfl rfl (.c (.c .n)) (zAl hp (by simpa [zO] using Cli.nd hY hp)) ?_
 refine go 6 [0,1] [8,6,4] .n (fun g1=>fun g2=>⟨rfl,?_⟩)
 intro a w hs;refine zM hs (.c rfl (.c rfl .n)) call22 (.c (.s (.s .z)) .n) (zRN hY hk hC hn hfr xe.at_ ⟨by omega,by omega⟩ _ (hs.mem.del (.s (.s .z)))) rfl ?_;clear hs w a;rintro _ _ a w ⟨v5,rfl,Y3,rfl,hY4⟩ hs
 refine zAe hs rfl rfl (.s (.s .z)) (.z (.c (.c (.c .n)))) (zJ rfl (zJ rfl (zJ (zL (hs.mem.del .z)).isSl.one zAb))) sizeOf36 rfl ?_
 refine goL 1 [] [5,4] .n ?_
 refine cl (·.drop (.c (.s (.s (.s .z))) .n)) ?_
 refine cl (·.reorder (.c (.s .z) (.c (.s .z) (.c .z .n)))) ?_
 intro a w hs;exact zBd hs rfl rfl rfl (.s (.s .z)) (.z (.c (.c (.c .n)))) isAgg36 sizeOf36 (.c (.s (.s .z)) .n) ⟨_,rfl,_,rfl,hY4⟩
theorem zai {g:Nat} {c:zAL} {C:CS} {Y:HA} (hY:Cli g c C Y) (hk:zCm c = 0) (hC:C.ok c) (hn:∀ i,C.σ.n i ≤ 1000000) (hfr:C.fr ≤ 1000000) (xe:EvR) (hx:R64 xe.at_) (w0:World) (hp:Y.p w0) (hb:Rd w0 (zO [Y]) xe.v 1 xe.bs.length (zC xe.bs)):Calls Tryz.prog 11 #[pt g 0,.agg #[zI 0,zI xe.at_,xe.v]] w0 (Ret w0 (zO [Y]) fun u N=>∃ v,u = .tuple #[.agg #[.bool (⟨false,0,[]⟩ : ShR).ready,zI (⟨false,0,[]⟩ : ShR).time,v],nI (zFB c C (zA xe.bs))] ∧ ∃ Y',N = [row v 52 6 (⟨false,0,[]⟩ : ShR).l.length ((⟨false,0,[]⟩ : ShR).l.flatMap zA0),Y'] ∧ Cli g c (zKZ c C xe.at_ (zA xe.bs)) Y'):=by
 refine zG (F0:=[(0,pt g 0),(1,.agg #[zI 0,zI xe.at_,xe.v])]) func11 rfl rfl rfl (.c (.c .n)) (zAl hp (by simpa [zO] using Cli.nd hY hp)) ?_
 refine go 6 [0] [4,3,0] .n (fun g1=>fun g2=>?_)
 intro a w hs;refine zHN hs rfl ?_;intro g3
 refine goL 2 [] [14,12,4,3,0] .n ?_
 intro a w hs;refine zI2 (u:=.func (.func 28) #[pt g 0] #[]) (kv':=[(0,.func (.func 28) #[pt g 0] #[])]) hs rfl rfl rfl .z underlying81 underlying3 rfl ?_
 refine goL 2 [] [16,12,4,3] .n ?_
 intro a w hs;refine zI2 (u:=.func (.func 29) #[pt g 0] #[]) (kv':=[(0,.func (.func 28) #[pt g 0] #[]),(1,.func (.func 29) #[pt g 0] #[])]) hs rfl rfl rfl .z underlying81 underlying3 rfl ?_
 refine goL 3 [0] [19,17,4,3] (.c (.s (.s .z)) .n) ⟨rfl,?_⟩
 intro a w hs;refine zJu (v:=.func (.func 28) #[pt g 0] #[]) (b:=true) hs rfl rfl (.s .z) underlying81 underlying3 zeroValue38 rfl rfl rfl ?_
 refine goL 10 [0] [27,26,4] (.c .z .n) ⟨rfl,?_⟩
 intro a w hs;refine zEs (fs:=[pt g 0]) (us:=[]) hs rfl (.c rfl .n) rfl call28 (.c (.s (.s (.s .z))) .n) (zO2 hY hk hC hn hfr (⟨0,xe.at_,xe.v,xe.bs⟩ : EvR) hx _ (hs.mem.del (.s (.s (.s .z)))) (hs.mem.rd1 hb (.c (.s (.s (.s .z))) .n))) rfl ?_;clear hs w a;rintro _ _ a w ⟨v6,rfl,Y4,rfl,hY5⟩ hs
 revert a w hs
 refine goL 2 [] [30,29,4] .n ?_
 intro a w hs;refine zAe hs rfl rfl (.s (.s (.s (.s .z)))) (.z (.c (.c (.c .n)))) (zJ rfl (zJ rfl (zJ (zL (hs.mem.del .z)).isSl.one zAb))) sizeOf36 rfl ?_
 refine goL 1 [] [5,4] .n ?_
 refine cl (·.drop (.c (.s (.s (.s (.s .z)))) (.c (.s (.s (.s .z))) .n))) ?_
 refine cl (·.reorder (.c (.s .z) (.c (.s .z) (.c .z .n)))) ?_
 intro a w hs;exact zBd hs rfl rfl rfl (.s (.s .z)) (.z (.c (.c (.c .n)))) isAgg36 sizeOf36 (.c (.s (.s .z)) .n) ⟨_,rfl,_,rfl,hY5⟩
theorem zat {g:Nat} {c:zAL} {C:CS} {Y:HA} (hY:Cli g c C Y) (hk:zCm c = 0) (hC:C.ok c) (hn:∀ i,C.σ.n i ≤ 1000000) (hfr:C.fr ≤ 1000000) (xe:EvR) (hx:R64 xe.at_) (w0:World) (hp:Y.p w0) (hb:Rd w0 (zO [Y]) xe.v 1 xe.bs.length (zC xe.bs)):Calls Tryz.prog 11 #[pt g 0,.agg #[zI 1,zI xe.at_,xe.v]] w0 (Ret w0 (zO [Y]) fun u N=>∃ v,u = .tuple #[.agg #[.bool (zCD c C xe.at_).ready,zI (zCD c C xe.at_).time,v],nI 0] ∧ ∃ Y',N = [row v 52 6 (zCD c C xe.at_).l.length ((zCD c C xe.at_).l.flatMap zA0),Y'] ∧ Cli g c (zLf c C xe.at_) Y'):=by
 refine zG (F0:=[(0,pt g 0),(1,.agg #[zI 1,zI xe.at_,xe.v])]) func11 rfl rfl rfl (.c (.c .n)) (zAl hp (by simpa [zO] using Cli.nd hY hp)) ?_
 refine go 6 [0] [4,3,0] .n (fun g1=>fun g2=>?_)
 intro a w hs;refine zHN hs rfl ?_;intro g3
 refine goL 2 [] [14,12,4,3,0] .n ?_
 intro a w hs;refine zI2 (u:=.func (.func 28) #[pt g 0] #[]) (kv':=[(0,.func (.func 28) #[pt g 0] #[])]) hs rfl rfl rfl .z underlying81 underlying3 rfl ?_
 refine goL 2 [] [16,12,4,3] .n ?_
 intro a w hs;refine zI2 (u:=.func (.func 29) #[pt g 0] #[]) (kv':=[(0,.func (.func 28) #[pt g 0] #[]),(1,.func (.func 29) #[pt g 0] #[])]) hs rfl rfl rfl .z underlying81 underlying3 rfl ?_
 refine goL 3 [0] [19,17,4,3] (.c (.s (.s .z)) .n) ⟨rfl,?_⟩
 intro a w hs;refine zJu (v:=.func (.func 29) #[pt g 0] #[]) (b:=true) hs rfl rfl (.s .z) underlying81 underlying3 zeroValue38 rfl rfl rfl ?_
 refine goL 10 [0] [27,26,4] (.c .z .n) ⟨rfl,?_⟩
 intro a w hs;refine zEs (fs:=[pt g 0]) (us:=[]) hs rfl (.c rfl .n) rfl call29 (.c (.s (.s (.s .z))) .n) (zRh hY hk hC hn hfr (⟨1,xe.at_,xe.v,xe.bs⟩ : EvR) hx _ (hs.mem.del (.s (.s (.s .z)))) (hs.mem.rd1 hb (.c (.s (.s (.s .z))) .n))) rfl ?_;clear hs w a;rintro _ _ a w ⟨v6,rfl,Y4,rfl,hY5⟩ hs
 revert a w hs
 refine goL 2 [] [30,29,4] .n ?_
 intro a w hs;refine zAe hs rfl rfl (.s (.s (.s (.s .z)))) (.z (.c (.c (.c .n)))) (zJ rfl (zJ rfl (zJ (zL (hs.mem.del .z)).isSl.one zAb))) sizeOf36 rfl ?_
 refine goL 1 [] [5,4] .n ?_
 refine cl (·.drop (.c (.s (.s (.s (.s .z)))) (.c (.s (.s (.s .z))) .n))) ?_
 refine cl (·.reorder (.c (.s .z) (.c (.s .z) (.c .z .n)))) ?_
 intro a w hs;exact zBd hs rfl rfl rfl (.s (.s .z)) (.z (.c (.c (.c .n)))) isAgg36 sizeOf36 (.c (.s (.s .z)) .n) ⟨_,rfl,_,rfl,hY5⟩
theorem zad {g:Nat} {c:zAL} {C:CS} {Y:HA} (hY:Cli g c C Y) (hk:zCm c = 0) (hC:C.ok c) (hn:∀ i,C.σ.n i ≤ 1000000) (hfr:C.fr ≤ 1000000) (xe:EvR) (hx:R64 xe.at_) (w0:World) (hp:Y.p w0) (hb:Rd w0 (zO [Y]) xe.v 1 xe.bs.length (zC xe.bs)) (h0:xe.k ≠ 0) (h1:xe.k ≠ 1):Calls Tryz.prog 11 #[pt g 0,.agg #[zI xe.k,zI xe.at_,xe.v]] w0 (Ret w0 (zO [Y]) fun u N=>∃ v,u = .tuple #[.agg #[.bool (⟨false,0,[]⟩ : ShR).ready,zI (⟨false,0,[]⟩ : ShR).time,v],nI 11] ∧ ∃ Y',N = [row v 52 6 (⟨false,0,[]⟩ : ShR).l.length ((⟨false,0,[]⟩ : ShR).l.flatMap zA0),Y'] ∧ Cli g c C Y'):=by
 refine zG (F0:=[(0,pt g 0),(1,.agg #[zI xe.k,zI xe.at_,xe.v])]) func11 rfl rfl rfl (.c (.c .n)) (zAl hp (by simpa [zO] using Cli.nd hY hp)) ?_
 refine go 6 [0] [4,3,0] .n (fun g1=>fun g2=>?_)
 intro a w hs;refine zHN hs rfl ?_;intro g3
 refine goL 2 [] [14,12,4,3,0] .n ?_
 intro a w hs;refine zI2 (u:=.func (.func 28) #[pt g 0] #[]) (kv':=[(0,.func (.func 28) #[pt g 0] #[])]) hs rfl rfl rfl .z underlying81 underlying3 rfl ?_
 refine goL 2 [] [16,12,4,3] .n ?_
 intro a w hs;refine zI2 (u:=.func (.func 29) #[pt g 0] #[]) (kv':=[(0,.func (.func 28) #[pt g 0] #[]),(1,.func (.func 29) #[pt g 0] #[])]) hs rfl rfl rfl .z underlying81 underlying3 rfl ?_
 refine goL 3 [0] [19,17,4,3] (.c (.s (.s .z)) .n) ⟨rfl,?_⟩
 intro a w hs;refine zJu (v:=.nilFunc) (b:=false) hs rfl rfl (.s .z) underlying81 underlying3 zeroValue38 (by rw [zNB h0 h1];rfl) (by rw [zNB h0 h1];rfl) rfl ?_
 refine goL 11 [0] [5,4] (.c (.s (.s .z)) .n) ⟨rfl,?_⟩
 refine cl (·.addNil 52 6) ?_
 refine cl (·.drop (.c (.s (.s (.s .z))) (.c (.s (.s .z)) .n))) ?_
 refine cl (·.reorder (.c .z (.c (.s .z) (.c .z .n)))) ?_
 intro a w hs;exact zBd hs rfl rfl rfl (.s (.s .z)) (.z (.c (.c (.c .n)))) isAgg36 sizeOf36 (.c (.s (.s .z)) .n) ⟨_,rfl,_,rfl,hY⟩
theorem zZG {g:Nat} {c:zAL} {C:CS} {Y:HA} (hY:Cli g c C Y) (hk:zCm c = 0) (hC:C.ok c) (hn:∀ i,C.σ.n i ≤ 1000000) (hfr:C.fr ≤ 1000000) (xe:EvR) (hx:R64 xe.at_) (w0:World) (hp:Y.p w0) (hb:Rd w0 (zO [Y]) xe.v 1 xe.bs.length (zC xe.bs)) (hxk:R64 xe.k):Calls Tryz.prog 11 #[pt g 0,.agg #[zI xe.k,zI xe.at_,xe.v]] w0 (Ret w0 (zO [Y]) fun u N=>∃ v,u = .tuple #[.agg #[.bool (zH5 c C xe).ready,zI (zH5 c C xe).time,v],nI (zaY c C xe)] ∧ ∃ Y',N = [row v 52 6 (zH5 c C xe).l.length ((zH5 c C xe).l.flatMap zA0),Y'] ∧ Cli g c (cDo c C xe) Y'):=by
 by_cases h0:xe.k = 0
 · have h:=zai hY hk hC hn hfr xe hx w0 hp hb
   rw [show zH5 c C xe = ⟨false,0,[]⟩ from if_neg (by omega),show zaY c C xe = zFB c C (zA xe.bs) from if_pos h0,show cDo c C xe = zKZ c C xe.at_ (zA xe.bs) from if_pos h0,h0]
   exact h
 · by_cases h1:xe.k = 1
   · have h:=zat hY hk hC hn hfr xe hx w0 hp hb
     rw [show zH5 c C xe = zCD c C xe.at_ from if_pos h1,show zaY c C xe = 0 from (if_neg h0).trans (if_pos h1),show cDo c C xe = zLf c C xe.at_ from (if_neg h0).trans (if_pos h1),h1]
     exact h
   · have h:=zad hY hk hC hn hfr xe hx w0 hp hb h0 h1
     rw [show zH5 c C xe = ⟨false,0,[]⟩ from if_neg h1,show zaY c C xe = 11 from (if_neg h0).trans (if_neg h1),show cDo c C xe = C from (if_neg h0).trans (if_neg h1)]
     exact h
end Go.Proofs.YtemnjodhidlfpaaGreat
/- Walks of the client's example: what each function does, over the program of this seat. Printed by a program of this session. -/
namespace Go.Proofs.YtemnjodhidlfpaaGreat
open Tryz
open Go Go.Sx Go.RowKit
set_option linter.unusedVariables false
set_option linter.unusedSimpArgs false
set_option maxRecDepth 4000
set_option maxHeartbeats 1000000

theorem zXy (w0:World):Calls Tryz.prog 26 #[] w0 (zAj w0 (.agg #[zI exC.ring,zI exC.window,zI exC.base,zI exC.gain,zI exC.least,zI exC.most,zI exC.slack,zI exC.num,zI exC.den,zI exC.extra,.bool (exC.curve)])):=by
 refine zG (F0:=[]) func26 rfl rfl rfl .n (Mem.nil _) ?_
 refine go 3 [0] [0] .n (fun g1=>⟨rfl,?_⟩)
 intro a w hs;exact zLe hs rfl rfl .z (.z (.c (.c (.c (.c (.c (.c (.c (.c (.c (.c (.c .n)))))))))))) isAgg23 sizeOf23 (.c .z .n) ⟨rfl,rfl⟩
theorem zIo (t tm pl:Int) (ht : -9223372036854775808 ≤ t ∧ t ≤ 9223372036854775807) (htm : -9223372036854775808 ≤ tm ∧ tm ≤ 9223372036854775807) (hpl : -9223372036854775808 ≤ pl ∧ pl ≤ 9223372036854775807) (w0:World):Calls Tryz.prog 27 #[.int .i64 t,.int .i64 tm,.int .i64 pl] w0 (Ret w0 [] fun v N=>N = [row v 5 1 (exB t tm pl).length (zC (exB t tm pl))]):=by
 refine zG (F0:=[(0,zI t),(1,zI tm),(2,zI pl)]) func27 rfl rfl rfl (.c (.c (.c .n))) (Mem.nil _) ?_
 refine go 8 [] [16] .n (fun g1=>?_)
 intro a w hs;refine zM hs (.c rfl .n) call60 .n (zPo t tm (-1) _ ([exR pl]) _ (by omega) (by omega) (by omega) (zAJ (m:=1) (size:=9) (hs.mem.del .z) rfl (by decide)) (zRr hpl)) rfl ?_;clear hs w a;rintro _ _ a w ⟨v2,rfl,rfl⟩ hs
 have hk3:=zIt t tm (-1) ([exR pl])
 revert a w hs
 refine goL 7 [] [6] .n ?_
 refine cl (·.drop (.c (.s .z) .n)) ?_
 intro a w hs;exact fin hs rfl rfl rfl
theorem zGc (w0:World):Calls Tryz.prog 10 #[] w0 (zAj w0 (.bool true)):=by
 have e1:=zbK;have e2:=zbN;have e3:=zbJ
 unfold zaU at e3;unfold zXh at e2 e3
 refine zG (F0:=[]) func10 rfl rfl rfl .n (Mem.nil _) ?_
 refine go 1 [] [] .n ?_
 intro a w hs;refine zB (v:=.agg #[zI exC.ring,zI exC.window,zI exC.base,zI exC.gain,zI exC.least,zI exC.most,zI exC.slack,zI exC.num,zI exC.den,zI exC.extra,.bool (exC.curve)]) hs .n call26 (zXy _) rfl ?_
 intro a w hs;refine zM hs (.c rfl .n) call8 .n (zR1 exC zXQ _) rfl ?_;clear hs w a;rintro _ _ a w ⟨g1,Y2,rfl,rfl,hY3⟩ hs
 revert a w hs
 refine goL 13 [] [17,1] .n ?_
 intro a w hs;refine zM hs (.c rfl (.c rfl (.c rfl .n))) call27 .n (zIo 1 0 0 (by decide) (by decide) (by decide) _) rfl ?_;clear hs w a;rintro v4 _ a w rfl hs
 refine zM hs (.c rfl (.c rfl (.c rfl .n))) call15 (.c (.s .z) .n) (zLm hY3 zXQ zU6 (fun i=>Nat.le_trans (Nat.le_refl 0) (by decide:0 ≤ 1000000)) (by decide:0 ≤ 1000000) 0 (by decide) _ (hs.mem.del (.s .z)) (hs.mem.rdrow .z (.c .z .n))) rfl ?_;clear hs w a;rintro _ _ a w ⟨rfl,Y5,rfl,hY6⟩ hs
 revert a w hs
 refine goL 1 [] [20,19,1] .n ?_
 intro a w hs;refine zM hs (.c rfl (.c rfl (.c rfl .n))) call27 .n (zIo 2 10 10 (by decide) (by decide) (by decide) _) rfl ?_;clear hs w a;rintro v7 _ a w rfl hs
 refine zM hs (.c rfl (.c rfl (.c rfl .n))) call15 (.c (.s .z) .n) (zLm hY6 zXQ zVh (fun i=>Nat.le_trans (zM5 _ (C0 exC) _ _ i) (by decide:1 ≤ 1000000)) (by decide:0 ≤ 1000000) 10 (by decide) _ (hs.mem.del (.s .z)) (hs.mem.rdrow .z (.c .z .n))) rfl ?_;clear hs w a;rintro _ _ a w ⟨rfl,Y8,rfl,hY9⟩ hs
 revert a w hs
 refine goL 3 [] [23,4,3] .n ?_
 intro a w hs;refine zM hs (.c rfl (.c rfl .n)) call22 (.c .z .n) (zRN hY9 zXQ zZ6 (fun i=>Nat.le_trans (Nat.le_trans (zM5 _ zXh _ _ i) (Nat.succ_le_succ (zM5 _ (C0 exC) _ _ i))) (by decide:2 ≤ 1000000)) (by decide:0 ≤ 1000000) 5 (by decide) _ (hs.mem.del .z)) rfl ?_;clear hs w a;rintro _ _ a w ⟨v12,rfl,Y10,rfl,hY11⟩ hs
 rw [e3] at hs
 replace hs:=hs.rerow .z (m':=1) (xs':=[zI 1,zI 5,zI 0,zI 0,.int .u16 (((0#16).toNat:Nat):Int),zI 1]) rfl rfl
 revert a w hs
 refine goL 1 [] [5,24,4,3] .n (fun g13=>?_)
 intro a w hs;refine zAe hs rfl rfl .z (.z (.c (.c (.c .n)))) (zJ rfl (zJ rfl (zJ (zL (hs.mem.del (.s .z))).isSl.one zAb))) sizeOf36 rfl ?_
 refine goL 2 [] [26,5,4] .n ?_
 have hb_:((((zFB exC (C0 exC) (zA (exB 1 0 0)):Nat):Int):Int) == 0) = true:=by rw [e1] <;> rfl
 intro a w hs;rw [hb_] at hs;clear hb_
 revert a w hs
 refine go 3 [] [29,27,5] .n ?_
 have hb_:((((zFB exC (zKZ exC (C0 exC) 0 (zA (exB 1 0 0))) (zA (exB 2 10 10)):Nat):Int):Int) == 0) = true:=by rw [e2] <;> rfl
 intro a w hs;rw [hb_] at hs;clear hb_
 revert a w hs
 refine go 9 [0,0] [38,35,5] (.c .z .n) ⟨rfl,rfl,?_⟩
 refine go 4 [0] [42,40,5] (.c .z .n) ⟨rfl,?_⟩
 intro a w hs;refine zF hs rfl rfl rfl ?_
 refine zAD hs rfl (zL (hs.mem.del (.s .z))).isSl underlying34 rfl ?_
 refine cl (·.recell (v':=zI 1) (Option.some.inj rfl)) ?_
 refine goL 1 [] [44,40,5] .n ?_
 refine go 4 [0] [48,46,5] (.c .z .n) ⟨rfl,?_⟩
 intro a w hs;refine zF hs rfl rfl rfl ?_
 refine zBL (j:=0) hs rfl rfl (zL (hs.mem.del (.s .z))) (by decide) (by omega) underlying34 sizeOf52 rfl ?_
 intro a w hs;refine zF hs rfl rfl rfl ?_
 refine zEI hs rfl (zL (hs.mem.del (.s .z))) (by omega) underlying52 rfl sizeOf49 (by decide) (o:=0 * 6 + 1) rfl rfl ?_
 intro a w hs;refine zF hs rfl rfl rfl ?_
 refine zYk hs rfl rfl (zL (hs.mem.del (.s .z))) (by omega) underlying49 (by decide) (by decide) sizeOf2 (o:=0 * 6 + 1 + 0) rfl rfl ?_
 intro a w hs;refine zF hs rfl rfl rfl ?_
 refine zBS (u:=zI 5) hs rfl (zL (hs.mem.del (.s .z))) (by rfl) isAgg2 rfl ?_
 refine goL 1 [] [53,46,5] .n ?_
 have hb_:((5:Int) == 5) = true:=by decide
 intro a w hs;rw [hb_] at hs;clear hb_
 revert a w hs
 refine go 4 [0] [57,55] (.c .z .n) ⟨rfl,?_⟩
 intro a w hs;refine zF hs rfl rfl rfl ?_
 refine zBL (j:=0) hs rfl rfl (zL (hs.mem.del (.s .z))) (by decide) (by omega) underlying34 sizeOf52 rfl ?_
 intro a w hs;refine zF hs rfl rfl rfl ?_
 refine zEI hs rfl (zL (hs.mem.del (.s .z))) (by omega) underlying52 rfl sizeOf3 (by decide) (o:=0 * 6 + 5) rfl rfl ?_
 intro a w hs;refine zF hs rfl rfl rfl ?_
 refine zBS (u:=zI 1) hs rfl (zL (hs.mem.del (.s .z))) (by rfl) isAgg3 rfl ?_
 refine goL 1 [] [61,55] .n ?_
 have hb_:((1:Int) == 1) = true:=by decide
 intro a w hs;rw [hb_] at hs;clear hb_
 revert a w hs
 refine go 2 [] [0] .n ?_
 refine cl (·.drop (.c (.s (.s (.s (.s .z)))) (.c (.s (.s (.s .z))) (.c (.s (.s .z)) (.c (.s .z) (.c .z .n)))))) ?_
 intro a w hs;exact fin hs rfl rfl ⟨rfl,rfl⟩
end Go.Proofs.YtemnjodhidlfpaaGreat
/- Walks of events: what each function does, over the program of this seat. Printed by a program of this session. -/
namespace Go.Proofs.YtemnjodhidlfpaaGreat
open Tryz
open Go Go.Sx Go.RowKit
set_option linter.unusedVariables false
set_option linter.unusedSimpArgs false
set_option maxRecDepth 4000
set_option maxHeartbeats 1000000

theorem Cli.oks {g:Nat} {c:zAL} {C:CS} {Y:HA} (h:Cli g c C Y):Oks C.σ.l c.keep:=by obtain ⟨_,_,_,h,_⟩:=h;exact h.oks
theorem zOd (u:Value) (L:List EvR) (w0:World) (hu:Rd w0 [] u 3 L.length (L.flatMap evV)) (hL:∀ x ∈ L,x.ok w0):Calls Tryz.prog 9 #[u] w0 (Ret w0 [] fun z N=>∃ g:Int,z = .int .i64 g ∧ (¬ 0 < g → L.length ≤ 60) ∧ N = []):=by
 have hue:=hu.le
 simp only [maxLen] at hue
 refine zG (F0:=[(0,u)]) func9 rfl rfl rfl (.c .n) (Mem.nil _) ?_
 refine go 3 [] [6,3,0] .n ?_
 intro a w hs;refine zAD hs rfl (hs.rd0 hu).isSl underlying24 rfl ?_
 refine goL 1 [] [8,7,6,3,0] .n ?_
 intro a w hs;refine zCL (fun mm_ a w=>∃ j:Nat,∃ cc:Int,mm_ = L.length - j ∧ St 25 [(0,u),(3,zI cc),(6,u),(7,nI L.length),(8,nI j)] w0 [] [] a w ∧ j ≤ L.length) ⟨0,0,rfl,hs.sub (.c rfl (.c rfl (.c rfl (.c rfl (.c rfl .n))))),by omega⟩ ?_
 clear hs w a;rintro mm_ a w ⟨j,cc,rfl,hs,hI1_0⟩
 revert a w hs
 refine go 1 [] [9,0,3,6,7,8] .n ?_
 refine ifG rfl (fun c_1=>?_) (fun c_1=>?_)
 ·
  refine go 0 [] [0,3,6,7,8] .n ?_
  intro a w hs;refine zBL (j:=j) hs rfl rfl (hs.rd0 hu) rfl (by omega) underlying24 sizeOf33 rfl ?_
  intro a w hs;refine zBA (cs:=evV (L.getD j default)) hs rfl (hs.rd0 hu) (zAT zJK L j (by omega)) (by rw [zAN zJK];omega) (by omega) isAgg33 sizeOf33 rfl ?_
  refine goL 5 [50,0] [14,12,0,6,7,8] .n (fun g2=>⟨rfl,(zJ rfl (zJ rfl (zJ (hL _ (zPK (by omega))).rd.isSl.one zAb))),rfl,?_⟩)
  intro a w hs;refine zAD hs rfl (hs.rd0 (hL _ (zPK (by omega))).rd).isSl underlying31 rfl ?_
  intro a w hs;refine zEn hs rfl rfl rfl ?_
  refine goL 3 [] [8,3,0,6,7] .n ⟨(by omega),?_⟩
  refine cl (·.drop (.c .z .n)) ?_
  intro a w hs;refine ⟨_,?_,(j + 1),IntKind.i64.wrap (cc + (((L.getD j default).bs.length:Nat):Int)),rfl,hs.sub (.c rfl (.c rfl (.c rfl (.c rfl (.c rfl .n))))),by omega⟩
  omega
 refine go 1 [] [18,3] .n ?_
 intro a w hs;refine zAD hs rfl (hs.rd0 hu).isSl underlying24 rfl ?_
 refine goL 2 [] [21,3] .n ?_
 intro a w hs;refine zW (b:=decide (60 < ((L.length:Nat):Int))) (fun c_3=>?_) (fun c_3=>?_)
 ·
  rw [c_3] at hs
  replace c_3:=of_decide_eq_true c_3
  revert a w hs
  refine go 5 [] [2] .n ?_
  intro a w hs;exact fin hs rfl rfl ⟨_,rfl,(by first | (intro _;omega) | (intro h_;exact absurd (by decide) h_)),rfl⟩
 rw [c_3] at hs
 replace c_3:=of_decide_eq_false c_3
 revert a w hs
 refine go 3 [] [24] .n ?_
 refine ifG rfl (fun c_4=>?_) (fun c_4=>?_)
 ·
  refine go 1 [] [2] .n ?_
  intro a w hs;exact fin hs rfl rfl ⟨_,rfl,(by first | (intro _;omega) | (intro h_;exact absurd (by decide) h_)),rfl⟩
 refine go 1 [] [2] .n ?_
 intro a w hs;exact fin hs rfl rfl ⟨_,rfl,(by first | (intro _;omega) | (intro h_;exact absurd (by decide) h_)),rfl⟩
end Go.Proofs.YtemnjodhidlfpaaGreat
