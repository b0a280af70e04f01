import Derived.Test.YtajjkegcfmhghaaGreatQG8
import Derived.Test.YtajjkegcfmhghaaGreatQWpose
import Derived.Test.YtajjkegcfmhghaaGreatQG18
import Derived.Test.YtajjkegcfmhghaaGreatQG22
import Derived.Test.YtajjkegcfmhghaaGreatQSxBasB
import Derived.Test.YtajjkegcfmhghaaGreatQWdel
set_option linter.unusedVariables false
set_option linter.unusedSimpArgs false
namespace Go.Proofs.YtajjkegcfmhghaaGreat
open Tryz
open Go Go.Sx Go.RowKit
set_option maxRecDepth 4000
set_option maxHeartbeats 1000000
theorem Sto.oks {p most:Nat} {σ:Stt} {X:HA} (h:Sto p most σ X):Oks σ.l most:=by obtain ⟨_,_,_,_,h,_⟩:=h;exact h
theorem zMJ (c:zAG) (cg sp:Nat) (p:KP) (fr:Nat) (σ:Stt) (X:HA) (hX:Sto sp c.keep σ X) (w0:World) (hcg:(blk cg [zI c.ring,zI c.window,zI c.base,zI c.gain,zI c.least,zI c.most,zI c.slack,zI c.num,zI c.den,zI c.extra,.bool (c.curve),pt sp 0,pt p.k 0,nI fr] 91).p w0) (hXp:X.p w0):Calls Tryz.prog 33 #[pt cg 0] w0 (Ret w0 [] λu N=>∃ L:List RI,sns L=σ.l∧N=[row u 46 3 L.length (L.flatMap snV),rws 48 L]):=by
 have ho:=hX.oks;have ho1:=ho.le;have ho2:=ho.m64
 refine zG (F0:=[(0,pt cg 0)]) func33 rfl rfl rfl (.c .n) (Mem.nil _) ?_
 refine go 5 [] [9,3,0] .n ?_
 intro a w hs;refine zZ hs rfl (hs.mem.keep hcg (by simp [zO,blk])) (.s (.s (.s (.s (.s (.s (.s (.s (.s (.s (.s .z))))))))))) isAgg88 rfl ?_
 intro a w hs;refine zB (v:=nI σ.l.length) hs (.c rfl .n) call56 (za9 hX _ (hs.mem.keepH hXp (by simp))) rfl ?_
 refine goL 1 [] [12,11,3,0] .n ?_
 refine cl (·.addNil 46 3) ?_
 refine cl (·.rerow .z (m':=([]:List RI).length) (xs':=(([]:List RI).flatMap snV)) (rfl) (rfl)) ?_
 refine cl (·.addRws 48) ?_
 refine cl (·.reorder (.c (.s .z) (.c .z .n))) ?_
 intro a w hs;refine zCU (λmm_ a w=>∃ j:Nat,∃ u:Value,∃ L:List RI,mm_=σ.l.length-j∧St 30 [(0,pt cg 0),(3,u),(11,nI σ.l.length),(12,zI (j:Int))] w0 [] [row u 46 3 L.length (L.flatMap snV),rws 48 L] a w∧j≤σ.l.length∧sns L=σ.l.take j) ⟨0,.slice none 0 0,[],rfl,hs.sub (.c rfl (.c rfl (.c rfl (.c rfl .n)))),by omega,rfl⟩ ?_
 clear hs w a;rintro mm_ a w ⟨j,u,L,rfl,hs,hI1_0,hI1_1⟩
 revert a w hs
 refine go 1 [] [13,0,3,11,12] .n ?_
 refine ifG rfl (λc_1=>?_) (λc_1=>?_)
 ·
  refine go 1 [] [14,0,3,11,12] .n ?_
  have hLl:L.length=j:=by rw [← zAO L,hI1_1,List.length_take];omega
  refine go 4 [] [18,4,0,3,11,12] .n ?_
  intro a w hs;refine zZ hs rfl (hs.mem.keep hcg (by simp [zO,blk])) (.s (.s (.s (.s (.s (.s (.s (.s (.s (.s (.s .z))))))))))) isAgg88 rfl ?_
  refine goL 1 [] [20,19,0,3,11,12] .n ?_
  intro a w hs;refine zK hs (.c rfl (.c rfl .n)) call57 .n (zdB hX (j:Int) _ (hs.mem.keepH hXp (by simp))) rfl ?_;clear hs w a;rintro _ _ a w ⟨v2,rfl,rfl⟩ hs
  revert a w hs
  refine goL 4 [] [5,23,22,0,3,11,12] .n (λg3=>?_)
  intro a w hs;refine zAb hs rfl rfl .z (.z (.c (.c (.c .n)))) (zJ rfl (zJ rfl (zJ (zP (hs.mem.del (.s .z))).isSl.one zAe))) sizeOf46 rfl ?_
  refine goL 4 [0] [26,24,0,11,12] (.c .z .n) ⟨rfl,λg4=>?_⟩
  intro a w hs;refine zBI (size:=3) (bytes:=40) hs rfl rfl (.s (.s (.s .z))) (zAJ (m:=1) (size:=3) (hs.mem.del .z) rfl (by decide)) (zJ rfl (zJ rfl (zJ (zP (hs.mem.del (.s (.s .z)))).isSl.one zAe))) underlying37 (i:=Tryz.t46) rfl rfl rfl rfl rfl (by decide) (by omega) (by simp only [maxLen];omega) rfl ?_;intro v5
  refine cl (·.drop (.c (.s .z) .n)) ?_
  refine goL 3 [] [12,3,0,11] .n ⟨(by omega),?_⟩
  intro a w hs;replace hs:=hs.rerow .z (m':=(L++[(⟨(sat σ.l (j:Int)).t,(sat σ.l (j:Int)).tm,(sat σ.l (j:Int)).l,v2⟩ : RI)]).length) (xs':=((L++[(⟨(sat σ.l (j:Int)).t,(sat σ.l (j:Int)).tm,(sat σ.l (j:Int)).l,v2⟩ : RI)]).flatMap snV)) (by rw [List.length_append];rfl) (by rw [List.flatMap_append];rfl)
  replace hs:=hs.rwsSnoc (x:=(⟨(sat σ.l (j:Int)).t,(sat σ.l (j:Int)).tm,(sat σ.l (j:Int)).l,v2⟩ : RI)) (.c (.s (.s (.s .z))) (.c (.s (.s .z)) .n))
  replace hs:=hs.drop (.c (.s (.s .z)) .n)
  replace hs:=hs.reorder (.c (.s .z) (.c .z .n))
  refine ⟨_,?_,(j+1),v5,(L++[(⟨(sat σ.l (j:Int)).t,(sat σ.l (j:Int)).tm,(sat σ.l (j:Int)).l,v2⟩ : RI)]),rfl,hs.sub (.c rfl (.c rfl (.c rfl (.c rfl .n)))),by omega,zZR hI1_1 (by omega)⟩
  omega
 refine go 2 [] [2] .n ?_
 intro a w hs;exact fin hs rfl rfl ⟨L,by rw [hI1_1,List.take_of_length_le (by omega)],rfl⟩
theorem zV7 (c:zAG) (cg sp:Nat) (p:KP) (fr:Nat) (σ:Stt) (Kc:KS) (X:HA) (x:Int) (v:Value) (m:Nat) (bs:List zN) (hk:zCm c=0) (hC:CS.ok c ⟨σ,Kc,fr⟩) (hX:Sto sp c.keep σ X) (hn:∀ i,σ.n i≤1000000) (hfr:fr≤1000000) (hx : -9223372036854775808≤x∧x≤9223372036854775807) (w0:World) (hM:∀ h∈([blk cg [zI c.ring,zI c.window,zI c.base,zI c.gain,zI c.least,zI c.most,zI c.slack,zI c.num,zI c.den,zI c.extra,.bool (c.curve),pt sp 0,pt p.k 0,nI fr] 91,X,zF0 c p Kc]:List HA),h.p w0) (hnd:(zO [blk cg [zI c.ring,zI c.window,zI c.base,zI c.gain,zI c.least,zI c.most,zI c.slack,zI c.num,zI c.den,zI c.extra,.bool (c.curve),pt sp 0,pt p.k 0,nI fr] 91,X,zF0 c p Kc]).Nodup) (hb:Rd w0 (zO [blk cg [zI c.ring,zI c.window,zI c.base,zI c.gain,zI c.least,zI c.most,zI c.slack,zI c.num,zI c.den,zI c.extra,.bool (c.curve),pt sp 0,pt p.k 0,nI fr] 91,X,zF0 c p Kc]) v 1 m (zC bs)):Calls Tryz.prog 18 #[pt cg 0,.int .i64 x,v] w0 (Ret w0 (zO [blk cg [zI c.ring,zI c.window,zI c.base,zI c.gain,zI c.least,zI c.most,zI c.slack,zI c.num,zI c.den,zI c.extra,.bool (c.curve),pt sp 0,pt p.k 0,nI fr] 91,X,zF0 c p Kc]) λu N=>u=nI (zA7 c (⟨σ,Kc,fr⟩ : CS) (zA bs))∧∃ (X':HA) (p':KP),N=[blk cg [zI c.ring,zI c.window,zI c.base,zI c.gain,zI c.least,zI c.most,zI c.slack,zI c.num,zI c.den,zI c.extra,.bool (c.curve),pt sp 0,pt p.k 0,nI fr] 91,X',zF0 c p' (zBG c (⟨σ,Kc,fr⟩ : CS) x (zA bs)).K]∧p'.k=p.k∧Sto sp c.keep (zBr c.keep σ (zA bs)) X'):=by
 have ho:=hX.oks;have hkk:=hC.k;have hwf:=hC.wf;dsimp only at hkk hwf
 refine zG (F0:=[(0,pt cg 0),(1,zI x),(2,v)]) func18 rfl rfl rfl (.c (.c (.c .n))) (Mem.start hM rfl hnd) ?_
 refine go 9 [0] [18,17,0,1] (.c .z .n) ⟨rfl,?_⟩
 intro a w hs;refine zK hs (.c rfl (.c rfl .n)) call38 (.c (.s .z) .n) (zS0 hX hn _ (hs.mem.del (.s .z)) (hs.mem.rd1 hb (.c (.s .z) .n))) rfl ?_;clear hs w a;rintro _ _ a w ⟨rfl,X1,rfl,hX2⟩ hs
 revert a w hs
 refine goL 7 [] [23,8,7,0,1] .n ?_
 refine ifG rfl (λc_3=>?_) (λc_3=>?_)
 ·
  have hz1:¬ zA7 c (⟨σ,Kc,fr⟩ : CS) (zA bs)=0:=λh=>(by assumption:((zBO σ.l c.keep σ.floor σ.gone (zA bs):Nat):Int)≠0) (by rw [show zBO σ.l c.keep σ.floor σ.gone (zA bs)=0 from h];rfl)
  refine go 2 [] [6] .n ?_
  refine cl (·.reorder (.c (.s .z) (.c .z (.c .z .n)))) ?_
  have hK2:(zBG c (⟨σ,Kc,fr⟩ : CS) x (zA bs)).K=Kc:=if_neg hz1
  intro a w hs;exact fin hs rfl rfl ⟨rfl,X1,p,by rw [hK2],rfl,hX2⟩
 have hz0:zA7 c (⟨σ,Kc,fr⟩ : CS) (zA bs)=0:=zC9 (by assumption:((zBO σ.l c.keep σ.floor σ.gone (zA bs):Nat):Int)=0)
 refine go 5 [0] [30,29,0,1] (.c (.s .z) .n) ⟨rfl,?_⟩
 intro a w hs;refine zK hs (.c rfl (.c rfl .n)) call39 .n (zbk hX2 (zJo σ.l c.keep σ.floor σ.gone (zA bs)) _ (hs.mem.del (.s .z))) rfl ?_;clear hs w a;rintro _ _ a w ⟨v4,rfl,rfl⟩ hs
 have hk5:=zPf (l:=(zBr c.keep σ (zA bs)).l) hX2.oks (zJo σ.l c.keep σ.floor σ.gone (zA bs))
 revert a w hs
 refine goL 4 [] [9,33,32,0,1] .n (λg6=>?_)
 intro a w hs;refine zAb hs rfl rfl .z (.z (.c (.c (.c .n)))) (zJ rfl (zJ rfl (zJ (zP (hs.mem.del (.s .z))).isSl.one zAe))) sizeOf46 rfl ?_
 refine goL 1 [] [9,0,1] .n ?_
 intro a w hs
 refine zFF (Γ:=KP) (M0:=[blk g6 [zI ((zFW (zBr c.keep σ (zA bs)).l (zJo σ.l c.keep σ.floor σ.gone (zA bs))).t),zI ((zFW (zBr c.keep σ (zA bs)).l (zJo σ.l c.keep σ.floor σ.gone (zA bs))).tm),v4] 46,row v4 48 9 ((zFW (zBr c.keep σ (zA bs)).l (zJo σ.l c.keep σ.floor σ.gone (zA bs))).l.length) ((zFW (zBr c.keep σ (zA bs)).l (zJo σ.l c.keep σ.floor σ.gone (zA bs))).l.flatMap zBJ),blk cg [zI c.ring,zI c.window,zI c.base,zI c.gain,zI c.least,zI c.most,zI c.slack,zI c.num,zI c.den,zI c.extra,.bool (c.curve),pt sp 0,pt p.k 0,nI fr] 91,X1]) (Ds:=λgs=>[Pv 0 (pt cg 0),Pv 1 (pt cg 0),Pv 2 (pt cg 12),Pv 3 (pt p.k 0),Pv 4 (zI x),Pv 5 (pt g6 1),Pv 6 (zI ((zFW (zBr c.keep σ (zA bs)).l (zJo σ.l c.keep σ.floor σ.gone (zA bs))).tm)),⟨[zF0 c p Kc],[],[],λvs7=>vs7 7=zI 0,λvs7=>[zF0 c ((gs 7).on p.k) (zXw c Kc x ((zFW (zBr c.keep σ (zA bs)).l (zJo σ.l c.keep σ.floor σ.gone (zA bs))).tm))],none⟩,Pv 8 (zI 0)]) [[],[],[],[],[],[],[],[7],[]] (default:KP) (by kernel_rfl) hs rfl (.c (.s (.s (.s (.s .z)))) .n) (by kernel_rfl) (λ_=>by kernel_rfl) (λ_ _=>rfl) (λus_ us'_=>(.c (λ_=>rfl) (.c (λ_=>rfl) (.c (λ_=>rfl) (.c (λ_=>rfl) (.c (λ_=>rfl) (.c (λ_=>rfl) (.c (λ_=>rfl) (.c (λh=>by have e7:=h 7 (by simp);simp only [e7]) (.c (λ_=>rfl) .n)))))))))) (by kernel_rfl) rfl (by kernel_rfl) (λgs=>?_) ?_
 ·
  refine (.c ?_ (.c ?_ (.c ?_ (.c ?_ (.c ?_ (.c ?_ (.c ?_ (.g ?_ (.c ?_ .n)))))))))
  · exact zAN (m:=9) .n (λhm0 hm hx=>.n) (by kernel_rfl) (by kernel_rfl) rfl
  · exact zAN (m:=9) (.c (k:=0) (by kernel_rfl) rfl rfl .n) (λhm0 hm hx=>.n) (by kernel_rfl) (by kernel_rfl) rfl
  · exact zAN (m:=9) (.c (k:=1) (by kernel_rfl) rfl rfl .n) (λhm0 hm hx=>.n) (by kernel_rfl) (by kernel_rfl) rfl
  · exact zAN (m:=9) (.c (k:=2) (by kernel_rfl) rfl rfl .n) (λhm0 hm hx=>(.c (hm0.del (.s (.s .z))))) (by kernel_rfl) (by kernel_rfl) rfl
  · exact zAN (m:=9) .n (λhm0 hm hx=>.n) (by kernel_rfl) (by kernel_rfl) rfl
  · exact zAN (m:=9) .n (λhm0 hm hx=>.n) (by kernel_rfl) (by kernel_rfl) rfl
  · exact zAN (m:=9) (.c (k:=5) (by kernel_rfl) rfl rfl .n) (λhm0 hm hx=>(.c (hm0.del .z))) (by kernel_rfl) (by kernel_rfl) rfl
  ·
   intro a_ w_ R_ rest_ vs7 hm hs ht hx
   replace hs:St _ _ _ (zO [zF0 c p Kc]) [zF0 c p Kc] _ _:=hs
   have hm0:=hm.mid
   replace hs:=hs.lrn (ht 3 (zD 9 _ (by kernel_rfl))) rfl rfl
   replace hs:=hs.lrn (ht 4 (zD 9 _ (by kernel_rfl))) rfl rfl
   replace hs:=hs.lrn (ht 6 (zD 9 _ (by kernel_rfl))) rfl rfl
   have hs0:=hs.bare
   refine zK hs (.c rfl (.c rfl (.c rfl .n))) call40 (.c .z .n) (zYt c p Kc x ((zFW (zBr c.keep σ (zA bs)).l (zJo σ.l c.keep σ.floor σ.gone (zA bs))).tm) hk hkk ⟨by omega,by omega⟩ ⟨by omega,by omega⟩ _ (hs.mem.del .z)) rfl ?_;clear hs;rintro _ _ a w ⟨rfl,kp8,rfl⟩ hs
   exact wpList_nil ⟨rfl,(kp8),_,_,hs0,(.c (.c (.c .r))),hs,rfl⟩
  intro a_ w_ R_ rest_ vs7 hm hs ht hx
  have hm0:=hm.mid
  have t7:=ht 7 (zD 9 _ (by kernel_rfl))
  have e7:_=some (vs7 7):=t7.val rfl
  rw [show vs7 7=zI 0 from t7.2.1] at e7
  replace hs:=hs.learn e7
  have hs0:=hs.bare
  refine zEH hs rfl rfl ?_;clear hs;intro a w hs
  exact wpList_nil ⟨rfl,_,_,hs0,(.c .r),hs,rfl⟩
 clear hs w a;intro a w vs7 gs hs hf
 replace hs:St _ _ _ _ [blk g6 [zI ((zFW (zBr c.keep σ (zA bs)).l (zJo σ.l c.keep σ.floor σ.gone (zA bs))).t),zI ((zFW (zBr c.keep σ (zA bs)).l (zJo σ.l c.keep σ.floor σ.gone (zA bs))).tm),v4] 46,row v4 48 9 ((zFW (zBr c.keep σ (zA bs)).l (zJo σ.l c.keep σ.floor σ.gone (zA bs))).l.length) ((zFW (zBr c.keep σ (zA bs)).l (zJo σ.l c.keep σ.floor σ.gone (zA bs))).l.flatMap zBJ),blk cg [zI c.ring,zI c.window,zI c.base,zI c.gain,zI c.least,zI c.most,zI c.slack,zI c.num,zI c.den,zI c.extra,.bool (c.curve),pt sp 0,pt p.k 0,nI fr] 91,X1,zF0 c ((gs 7).on p.k) (zXw c Kc x ((zFW (zBr c.keep σ (zA bs)).l (zJo σ.l c.keep σ.floor σ.gone (zA bs))).tm))] _ _:=hs
 obtain ⟨e8,q8⟩:=hf 8 (by decide)
 replace e8:_=some (vs7 8):=e8.val rfl
 rw [show vs7 8=zI 0 from q8] at e8
 replace hs:=hs.learn e8;clear e8 q8
 generalize (gs 7)=z9 at hs
 clear hf
 revert a w hs
 refine goE 0 [] [6] .n ?_
 refine cl (·.drop (.c (.s .z) (.c .z .n))) ?_
 have hK2:(zBG c (⟨σ,Kc,fr⟩ : CS) x (zA bs)).K=zXw c Kc x ((zFW (zBr c.keep σ (zA bs)).l (zJo σ.l c.keep σ.floor σ.gone (zA bs))).tm):=if_pos hz0
 intro a w hs;exact fin hs rfl rfl ⟨by rw [hz0];rfl,X1,(z9.on p.k),by rw [hK2],rfl,hX2⟩
theorem zW8 (c:zAG) (L:List RI) (u:Value) (l:List zAH) (t:Int) (ht:R64 t) (most:Nat) (hl:sns L=l) (ho:Oks l most) (hw:Wfs l) (w0:World) (hM:∀ h∈([row u 46 3 L.length (L.flatMap snV),rws 48 L]:List HA),h.p w0):Calls Tryz.prog 49 #[.agg #[zI c.ring,zI c.window,zI c.base,zI c.gain,zI c.least,zI c.most,zI c.slack,zI c.num,zI c.den,zI c.extra,.bool (c.curve)],.int .i64 t,u] w0 (Ret w0 (zO [row u 46 3 L.length (L.flatMap snV),rws 48 L]) λz N=>∃ v,z = .tuple #[v,nI ((zCl c l t).2)]∧N=[row v 43 6 (zCl c l t).1.length ((zCl c l t).1.flatMap zA5)]):=by
 subst hl
 have h:=zVn c L u t ht w0 (zcO (hM (rws 48 L) (by simp)) ho hw) (zP (hM (row u 46 3 L.length (L.flatMap snV)) (by simp)))
 rw [zU9] at h
 exact h.mono (λe w ⟨z,N,h1,h2,h3⟩=>⟨z,N,h1,h2,h3.wide⟩)
theorem zVs (c:zAG) (cg sp:Nat) (p:KP) (fr:Nat) (σ:Stt) (Kc:KS) (X:HA) (x:Int) (hk:zCm c=0) (hC:CS.ok c ⟨σ,Kc,fr⟩) (hX:Sto sp c.keep σ X) (hn:∀ i,σ.n i≤1000000) (hfr:fr≤1000000) (hx : -9223372036854775808≤x∧x≤9223372036854775807) (w0:World) (hM:∀ h∈([blk cg [zI c.ring,zI c.window,zI c.base,zI c.gain,zI c.least,zI c.most,zI c.slack,zI c.num,zI c.den,zI c.extra,.bool (c.curve),pt sp 0,pt p.k 0,nI fr] 91,X,zF0 c p Kc]:List HA),h.p w0) (hnd:(zO [blk cg [zI c.ring,zI c.window,zI c.base,zI c.gain,zI c.least,zI c.most,zI c.slack,zI c.num,zI c.den,zI c.extra,.bool (c.curve),pt sp 0,pt p.k 0,nI fr] 91,X,zF0 c p Kc]).Nodup):Calls Tryz.prog 25 #[pt cg 0,.int .i64 x] w0 (Ret w0 (zO [blk cg [zI c.ring,zI c.window,zI c.base,zI c.gain,zI c.least,zI c.most,zI c.slack,zI c.num,zI c.den,zI c.extra,.bool (c.curve),pt sp 0,pt p.k 0,nI fr] 91,X,zF0 c p Kc]) λu N=>∃ (v:Value) (p':KP),u = .agg #[.bool (zCW c (⟨σ,Kc,fr⟩ : CS) x).ready,zI (zCW c (⟨σ,Kc,fr⟩ : CS) x).time,v]∧N=[row v 43 6 (zCW c (⟨σ,Kc,fr⟩ : CS) x).l.length ((zCW c (⟨σ,Kc,fr⟩ : CS) x).l.flatMap zA5),blk cg [zI c.ring,zI c.window,zI c.base,zI c.gain,zI c.least,zI c.most,zI c.slack,zI c.num,zI c.den,zI c.extra,.bool (c.curve),pt sp 0,pt p.k 0,nI (fr+1)] 91,X,zF0 c p' (zJl c Kc x)]∧p'.k=p.k):=by
 have ho:=hX.oks;have hkk:=hC.k;have hwf:=hC.wf;dsimp only at hkk hwf
 refine zG (F0:=[(0,pt cg 0),(1,zI x)]) func25 rfl rfl rfl (.c (.c .n)) (Mem.start hM rfl hnd) ?_
 refine go 7 [] [14,12,4,0,1] .n (λg1=>?_)
 refine go 2 [0] [16,12,4,0,1] (.c (.s .z) .n) ⟨rfl,(by omega),?_⟩
 have hv_:(((fr:Nat):Int)+1:Int)=(((fr+1:Nat):Int):Int):=by omega
 intro a w hs;rw [hv_] at hs;clear hv_
 revert a w hs
 refine go 8 [0,0] [24,23,4,0] (.c .z .n) ⟨rfl,rfl,?_⟩
 intro a w hs;refine zK hs (.c rfl (.c rfl .n)) call48 (.c (.s (.s (.s .z))) .n) (zaF c p Kc x hk hkk ⟨by omega,by omega⟩ _ (hs.mem.del (.s (.s (.s .z))))) rfl ?_;clear hs w a;rintro _ _ a w ⟨rfl,kp2,rfl⟩ hs
 revert a w hs
 refine goL 7 [] [29,5,4,0] .n ?_
 refine ifG rfl (λc_3=>?_) (λc_3=>?_)
 ·
  refine go 2 [0] [4] (.c (.s (.s .z)) .n) ⟨rfl,?_⟩
  have hS:(zCW c (⟨σ,Kc,fr⟩ : CS) x)=⟨false,0,[]⟩:=if_neg (show ¬ 0<Kc.l2.length by assumption)
  refine cl (·.addNil 43 6) ?_
  intro a w hs;replace hs:=hs.rerow .z (m':=(zCW c (⟨σ,Kc,fr⟩ : CS) x).l.length) (xs':=((zCW c (⟨σ,Kc,fr⟩ : CS) x).l.flatMap zA5)) (by rw [hS];rfl) (by rw [hS];rfl)
  replace hs:=hs.reorder (.c .z (.c (.s (.s .z)) (.c (.s (.s .z)) (.c (.s .z) (.c .z .n)))))
  exact zM6 hs rfl rfl (.s (.s (.s (.s .z)))) (.z (.c (.c (.c .n)))) isAgg33 sizeOf33 (.c (.s (.s (.s (.s .z)))) .n) ⟨.slice none 0 0,(kp2.on p.k),by rw [hS],rfl,rfl⟩
 have htr:=zdc (c:=c) (K:=Kc) hx hkk
 refine go 0 [] [5,4,0] .n ?_
 intro a w hs
 refine zFF (Γ:=Value×List RI) (M0:=[zF0 c (kp2.on p.k) (zJl c Kc x),blk cg [zI c.ring,zI c.window,zI c.base,zI c.gain,zI c.least,zI c.most,zI c.slack,zI c.num,zI c.den,zI c.extra,.bool (c.curve),pt sp 0,pt p.k 0,zI (((fr:Nat):Int)+1)] 91,blk g1 [.bool (false),zI 0,.slice none 0 0] 33,X]) (Ds:=λgs=>[Pv 0 (pt cg 0),Pv 1 (pt cg 0),Pv 2 (pt cg 0),Pv 3 (.agg #[zI c.ring,zI c.window,zI c.base,zI c.gain,zI c.least,zI c.most,zI c.slack,zI c.num,zI c.den,zI c.extra,.bool (c.curve)]),Pv 4 (zI (kTm c Kc x)),Pv 5 (pt cg 0),⟨[],[],[],λvs4=>vs4 6=((gs 6).1)∧sns ((gs 6).2)=σ.l,λvs4=>[row ((gs 6).1) 46 3 (((gs 6).2).length) (((gs 6).2).flatMap snV),rws 48 ((gs 6).2)],none⟩,⟨[],[6],[],λvs4=>vs4 7 = .tuple #[(zGT (vs4 7)),nI ((zCl c σ.l (kTm c Kc x)).2)],λvs4=>[row (zGT (vs4 7)) 43 6 ((zCl c σ.l (kTm c Kc x)).1.length) ((zCl c σ.l (kTm c Kc x)).1.flatMap zA5)],none⟩,⟨[],[],[7],λvs4=>vs4 8 = .tuple #[(zGT (vs4 7)),nI ((zCl c σ.l (kTm c Kc x)).2)],λvs4=>[],none⟩,⟨[],[],[7],λvs4=>vs4 9=(zGT (vs4 7)),λvs4=>[],none⟩,Pv 10 (nI ((zCl c σ.l (kTm c Kc x)).2)),⟨[],[],[7],λvs4=>vs4 11=(zGT (vs4 7)),λvs4=>[],none⟩,Pv 12 (nI ((zCl c σ.l (kTm c Kc x)).2))]) [[],[],[],[],[],[],[6],[],[],[],[],[],[]] ((.slice none 0 0:Value),(default:List RI)) (by kernel_rfl) hs rfl .n (by kernel_rfl) (λ_=>by kernel_rfl) (λ_ _=>rfl) (λus_ us'_=>(.c (λ_=>rfl) (.c (λ_=>rfl) (.c (λ_=>rfl) (.c (λ_=>rfl) (.c (λ_=>rfl) (.c (λ_=>rfl) (.c (λh=>by have e6:=h 6 (by simp);simp only [e6]) (.c (λ_=>rfl) (.c (λ_=>rfl) (.c (λ_=>rfl) (.c (λ_=>rfl) (.c (λ_=>rfl) (.c (λ_=>rfl) .n)))))))))))))) (by kernel_rfl) rfl (by kernel_rfl) (λgs=>?_) ?_
 ·
  refine (.c ?_ (.c ?_ (.c ?_ (.c ?_ (.c ?_ (.c ?_ (.g ?_ (.c ?_ (.c ?_ (.c ?_ (.c ?_ (.c ?_ (.c ?_ .n)))))))))))))
  · exact zAN (m:=13) .n (λhm0 hm hx=>.n) (by kernel_rfl) (by kernel_rfl) rfl
  · exact zAN (m:=13) (.c (k:=0) (by kernel_rfl) rfl rfl .n) (λhm0 hm hx=>.n) (by kernel_rfl) (by kernel_rfl) rfl
  · exact zAN (m:=13) (.c (k:=1) (by kernel_rfl) rfl rfl .n) (λhm0 hm hx=>.n) (by kernel_rfl) (by kernel_rfl) rfl
  · exact zAN (m:=13) (.c (k:=2) (by kernel_rfl) rfl rfl .n) (λhm0 hm hx=>(.c (hm0.del (.s .z)))) (by kernel_rfl) (by kernel_rfl) rfl
  · exact zAN (m:=13) .n (λhm0 hm hx=>.n) (by kernel_rfl) (by kernel_rfl) rfl
  · exact zAN (m:=13) .n (λhm0 hm hx=>.n) (by kernel_rfl) (by kernel_rfl) rfl
  ·
   intro a_ w_ R_ rest_ vs4 hm hs ht hx
   have hm0:=hm.mid
   replace hs:=hs.lrn (ht 5 (zD 13 _ (by kernel_rfl))) rfl rfl
   have hs0:=hs.bare
   refine zK hs (.c rfl .n) call33 .n (zMJ c cg sp p _ σ _ hX _ (hm0.del (.s .z)) (hm0.del (.s (.s (.s .z))))) rfl ?_;clear hs;rintro u5 _ a w ⟨L6,hL7,rfl⟩ hs
   exact wpList_nil ⟨rfl,(u5,L6),_,_,hs0,(.c .r),hs,⟨rfl,hL7⟩⟩
  ·
   intro a_ w_ R_ rest_ vs4 hm hs ht hx
   replace hs:St _ _ _ (zO [row ((gs 6).1) 46 3 (((gs 6).2).length) (((gs 6).2).flatMap snV),rws 48 ((gs 6).2)]) [row ((gs 6).1) 46 3 (((gs 6).2).length) (((gs 6).2).flatMap snV),rws 48 ((gs 6).2)] _ _:=hs
   have hm0:=hm.mid
   replace hs:=hs.lrn (ht 3 (zD 13 _ (by kernel_rfl))) rfl rfl
   replace hs:=hs.lrn (ht 4 (zD 13 _ (by kernel_rfl))) rfl rfl
   have t6:=ht 6 (zD 13 _ (by kernel_rfl))
   have e6:_=some (vs4 6):=t6.val rfl
   rw [show vs4 6=((gs 6).1) from t6.2.1.1] at e6
   have hL7:sns ((gs 6).2)=σ.l:=t6.2.1.2
   replace hs:=hs.learn e6
   have hs0:=hs.bare
   refine zK hs (.c rfl (.c rfl (.c rfl .n))) call49 (.c .z (.c .z .n)) (zW8 c ((gs 6).2) ((gs 6).1) σ.l (kTm c Kc x) htr _ (by assumption) ho hwf _ (hs.mem.allX (.c .z (.c .z .n)))) rfl ?_;clear hs;rintro _ _ a w ⟨v8,rfl,rfl⟩ hs
   exact wpList_nil ⟨rfl,_,_,hs0,(.c (.c (.c .r))),hs,rfl⟩
  ·
   intro a_ w_ R_ rest_ vs4 hm hs ht hx
   have hm0:=hm.mid
   have t7:=ht 7 (zD 13 _ (by kernel_rfl))
   have e7:_=some (vs4 7):=t7.val rfl
   rw [show vs4 7 = .tuple #[(zGT (vs4 7)),nI ((zCl c σ.l (kTm c Kc x)).2)] from t7.2.1] at e7
   replace hs:=hs.learn e7
   have hs0:=hs.bare
   refine zGe hs rfl rfl ?_;clear hs;intro a w hs
   exact wpList_nil ⟨rfl,_,_,hs0,(.c .r),hs,rfl⟩
  ·
   intro a_ w_ R_ rest_ vs4 hm hs ht hx
   have hm0:=hm.mid
   have t8:=ht 8 (zD 13 _ (by kernel_rfl))
   have e8:_=some (vs4 8):=t8.val rfl
   rw [show vs4 8 = .tuple #[(zGT (vs4 7)),nI ((zCl c σ.l (kTm c Kc x)).2)] from t8.2.1] at e8
   replace hs:=hs.learn e8
   have hs0:=hs.bare
   refine zH9 hs rfl .z rfl ?_;clear hs;intro a w hs
   exact wpList_nil ⟨rfl,_,_,hs0,(.c .r),hs,rfl⟩
  ·
   intro a_ w_ R_ rest_ vs4 hm hs ht hx
   have hm0:=hm.mid
   have t8:=ht 8 (zD 13 _ (by kernel_rfl))
   have e8:_=some (vs4 8):=t8.val rfl
   rw [show vs4 8 = .tuple #[(zGT (vs4 7)),nI ((zCl c σ.l (kTm c Kc x)).2)] from t8.2.1] at e8
   replace hs:=hs.learn e8
   have hs0:=hs.bare
   refine zH9 hs rfl (.s .z) rfl ?_;clear hs;intro a w hs
   exact wpList_nil ⟨rfl,_,_,hs0,(.c .r),hs,rfl⟩
  ·
   intro a_ w_ R_ rest_ vs4 hm hs ht hx
   have hm0:=hm.mid
   have t9:=ht 9 (zD 13 _ (by kernel_rfl))
   have e9:_=some (vs4 9):=t9.val rfl
   rw [show vs4 9=(zGT (vs4 7)) from t9.2.1] at e9
   replace hs:=hs.learn e9
   have hs0:=hs.bare
   refine zEH hs rfl rfl ?_;clear hs;intro a w hs
   exact wpList_nil ⟨rfl,_,_,hs0,(.c .r),hs,rfl⟩
  exact zAN (m:=13) (.c (k:=10) (by kernel_rfl) rfl rfl .n) (λhm0 hm hx=>.n) (by kernel_rfl) (by kernel_rfl) rfl
 clear hs w a;intro a w vs4 gs hs hf
 replace hs:St _ _ _ _ [zF0 c (kp2.on p.k) (zJl c Kc x),blk cg [zI c.ring,zI c.window,zI c.base,zI c.gain,zI c.least,zI c.most,zI c.slack,zI c.num,zI c.den,zI c.extra,.bool (c.curve),pt sp 0,pt p.k 0,zI (((fr:Nat):Int)+1)] 91,blk g1 [.bool (false),zI 0,.slice none 0 0] 33,X,row (zGT (vs4 7)) 43 6 ((zCl c σ.l (kTm c Kc x)).1.length) ((zCl c σ.l (kTm c Kc x)).1.flatMap zA5)] _ _:=hs
 obtain ⟨e6,q6⟩:=hf 6 (by decide)
 replace e6:_=some (vs4 6):=e6.val rfl
 obtain ⟨q6,hL7⟩:=q6
 rw [show vs4 6=((gs 6).1) from q6] at e6
 replace hs:=hs.learn e6;clear e6 q6
 obtain ⟨e11,q11⟩:=hf 11 (by decide)
 replace e11:_=some (vs4 11):=e11.val rfl
 rw [show vs4 11=(zGT (vs4 7)) from q11] at e11
 replace hs:=hs.learn e11;clear e11 q11
 generalize ((gs 6).1)=v9 at hs
 generalize ((gs 6).2)=z10 at hs hL7
 generalize zGT (vs4 7)=v11 at hs
 clear hf
 revert a w hs
 refine goE 2 [] [43,42,4] .n ?_
 intro a w hs;refine zGc (it:=Tryz.t33) (zs:=[.bool (false),zI 0,.slice none 0 0]) (places:=[(0,1),(1,1),(2,1)]) hs (.c rfl (.c rfl (.c rfl .n))) underlying33 rfl rfl rfl rfl (.c rfl rfl (.z (.c .n)) (.c rfl rfl (.s (.z (.c .n))) (.c rfl (zP (hs.mem.del (.s (.s (.s (.s .z)))))).isSl.lcells (.s (.s (.z (.c .n)))) .n))) rfl ?_
 intro a w hs;refine zAb hs rfl rfl (.s (.s .z)) (.z (.c (.c (.c .n)))) (zJ rfl (zJ rfl (zJ (zP (hs.mem.del (.s (.s (.s (.s .z)))))).isSl.one zAe))) sizeOf33 rfl ?_
 refine goL 0 [] [4] .n ?_
 have hS:(zCW c (⟨σ,Kc,fr⟩ : CS) x)=⟨true,kTm c Kc x,(zCl c σ.l (kTm c Kc x)).1⟩:=if_pos (show 0<Kc.l2.length by assumption)
 refine cl (·.rerow (.s (.s (.s (.s .z)))) (m':=(zCW c (⟨σ,Kc,fr⟩ : CS) x).l.length) (xs':=((zCW c (⟨σ,Kc,fr⟩ : CS) x).l.flatMap zA5)) (by rw [hS]) (by rw [hS])) ?_
 refine cl (·.reorder (.c .z (.c (.s (.s .z)) (.c (.s (.s .z)) (.c (.s .z) (.c .z .n)))))) ?_
 intro a w hs;exact zM6 hs rfl rfl (.s (.s (.s (.s .z)))) (.z (.c (.c (.c .n)))) isAgg33 sizeOf33 (.c (.s (.s (.s (.s .z)))) .n) ⟨v11,(kp2.on p.k),by rw [hS],rfl,rfl⟩
def Cli (g:Nat) (c:zAG) (C:CS) (Y:HA):Prop:=∃ (sp:Nat) (p:KP) (X:HA),Sto sp c.keep C.σ X∧Y=zFa [(blk g [zI c.ring,zI c.window,zI c.base,zI c.gain,zI c.least,zI c.most,zI c.slack,zI c.num,zI c.den,zI c.extra,.bool (c.curve),pt sp 0,pt p.k 0,nI C.fr] 91),X,zF0 c p C.K]
theorem zS1 (c:zAG) (hk:zCm c=0) (w0:World):Calls Tryz.prog 46 #[.int .i64 c.ring] w0 (Ret w0 [] λz N=>∃ p X,z = .tuple #[pt p 0,.int .i64 0]∧N=[X]∧Sto p c.keep zXo X):=by
 obtain ⟨h1,h2,h3⟩:=zLx hk
 have h:=zbs c.keep w0 ⟨h2,h3⟩
 rw [show nI c.keep = .int .i64 c.ring from congrArg (Value.int .i64) h1] at h
 exact h
theorem zWH (c:zAG) (hk:zCm c≠0) (w0:World):Calls Tryz.prog 22 #[.agg #[zI c.ring,zI c.window,zI c.base,zI c.gain,zI c.least,zI c.most,zI c.slack,zI c.num,zI c.den,zI c.extra,.bool (c.curve)]] w0 (zAf w0 (.tuple #[.pointer none,nI (zCm c)])):=by
 refine zG (F0:=[(0,.agg #[zI c.ring,zI c.window,zI c.base,zI c.gain,zI c.least,zI c.most,zI c.slack,zI c.num,zI c.den,zI c.extra,.bool (c.curve)])]) func22 rfl rfl rfl (.c .n) (Mem.nil _) ?_
 refine go 4 [0,0] [8,1] .n (λg1=>⟨rfl,?_⟩)
 intro a w hs;refine zB (v:=.tuple #[.pointer none,nI (zCm c)]) hs (.c rfl .n) call45 (zVr c hk _) rfl ?_
 refine goL 7 [] [13,5,4,1] .n ?_
 refine ifG rfl (λc_2=>?_) (λc_2=>?_)
 ·
  refine go 3 [] [3,2] .n ?_
  refine cl (·.drop (.c .z .n)) ?_
  intro a w hs;exact zBR hs rfl rfl rfl ⟨rfl,rfl⟩
 exfalso;omega
theorem zTV (c:zAG) (hk:zCm c=0) (w0:World):Calls Tryz.prog 22 #[.agg #[zI c.ring,zI c.window,zI c.base,zI c.gain,zI c.least,zI c.most,zI c.slack,zI c.num,zI c.den,zI c.extra,.bool (c.curve)]] w0 (Ret w0 [] λu N=>∃ (g:Nat) (Y:HA),u = .tuple #[pt g 0,.int .i64 0]∧N=[Y]∧Cli g c (C0 c) Y):=by
 refine zG (F0:=[(0,.agg #[zI c.ring,zI c.window,zI c.base,zI c.gain,zI c.least,zI c.most,zI c.slack,zI c.num,zI c.den,zI c.extra,.bool (c.curve)])]) func22 rfl rfl rfl (.c .n) (Mem.nil _) ?_
 refine go 4 [0,0] [8,1] .n (λg1=>⟨rfl,?_⟩)
 intro a w hs;refine zK hs (.c rfl .n) call45 .n (zY2 c hk _) rfl ?_;clear hs w a;rintro _ _ a w ⟨kp2,rfl,rfl⟩ hs
 revert a w hs
 refine goL 10 [0] [17,4,1] (.c (.s .z) .n) ⟨rfl,?_⟩
 intro a w hs;refine zK hs (.c rfl .n) call46 .n (zS1 c hk _) rfl ?_;clear hs w a;rintro _ _ a w ⟨g3,X4,rfl,rfl,hX5⟩ hs
 revert a w hs
 refine goL 15 [0,0] [3,2] (.c (.s .z) .n) ⟨rfl,λg6=>?_⟩
 refine cl (·.drop (.c (.s .z) .n)) ?_
 intro a w hs;replace hs:=hs.memTo hs.mem.sep
 exact zBR hs rfl rfl rfl ⟨g6,_,rfl,rfl,g3,kp2,X4,hX5,rfl⟩
theorem zQg (c:zAG) (cg sp:Nat) (p:KP) (fr:Nat) (σ:Stt) (Kc:KS) (X:HA) (hX:Sto sp c.keep σ X)  (w0:World) (hcg:(blk cg [zI c.ring,zI c.window,zI c.base,zI c.gain,zI c.least,zI c.most,zI c.slack,zI c.num,zI c.den,zI c.extra,.bool (c.curve),pt sp 0,pt p.k 0,nI fr] 91).p w0) (hXp:X.p w0) (hKp:(zF0 c p Kc).p w0):Calls Tryz.prog 17 #[pt cg 0] w0 (zAf w0 (nI (σ.n 0))):=by
 refine zG (F0:=[(0,pt cg 0)]) func17 rfl rfl rfl (.c .n) (Mem.nil _) ?_
 refine go 7 [] [7] .n ?_
 intro a w hs;refine zZ hs rfl (hs.mem.keep hcg (by simp [zO,blk])) (.s (.s (.s (.s (.s (.s (.s (.s (.s (.s (.s .z))))))))))) isAgg88 rfl ?_
 intro a w hs;refine zB (v:=nI (σ.n 0)) hs (.c rfl .n) call37 (zXE hX _ (hs.mem.keepH hXp (by simp))) rfl ?_
 refine goL 1 [] [2] .n ?_
 intro a w hs;exact fin hs rfl rfl ⟨rfl,rfl⟩
theorem zPs (c:zAG) (cg sp:Nat) (p:KP) (fr:Nat) (σ:Stt) (Kc:KS) (X:HA) (hX:Sto sp c.keep σ X)  (w0:World) (hcg:(blk cg [zI c.ring,zI c.window,zI c.base,zI c.gain,zI c.least,zI c.most,zI c.slack,zI c.num,zI c.den,zI c.extra,.bool (c.curve),pt sp 0,pt p.k 0,nI fr] 91).p w0) (hXp:X.p w0) (hKp:(zF0 c p Kc).p w0):Calls Tryz.prog 20 #[pt cg 0] w0 (zAf w0 (.tuple #[zI Kc.off,zI Kc.j,zI Kc.now])):=by
 refine zG (F0:=[(0,pt cg 0)]) func20 rfl rfl rfl (.c .n) (Mem.nil _) ?_
 refine go 9 [] [12,0] .n ?_
 intro a w hs;refine zZ hs rfl (hs.mem.keep hcg (by simp [zO,blk])) (.s (.s (.s (.s (.s (.s (.s (.s (.s (.s (.s (.s .z)))))))))))) isAgg89 rfl ?_
 intro a w hs;refine zB (v:=.tuple #[zI Kc.off,.bool (decide (0<Kc.l2.length))]) hs (.c rfl .n) call42 (zX8 c p Kc _ (hs.mem.keepH hKp (by simp))) rfl ?_
 refine goL 5 [] [5,0] .n ?_
 intro a w hs
 refine zR [.p [] [],.p [] [],.p [1] [],.p [2] [],.v [3] (pt p.k 0),.v [4] (zI Kc.j),.p [] [],.p [6] [],.p [7] [],.v [8] (pt p.k 0),.v [9] (zI Kc.now),.p [0] [],.p [5] [],.p [10] []] [11,12,13] hs .n .n (by kernel_rfl) ⟨λ_ _ _ _ hm hs K=>zZ hs rfl (hm.keep hcg (by simp [zO,blk])) (.s (.s (.s (.s (.s (.s (.s (.s (.s (.s (.s (.s .z)))))))))))) isAgg89 rfl (vk K),λ_ _ _ _ hm hs K=>zB (v:=zI Kc.j) hs (.c rfl .n) call43 (zad c p Kc _ (hm.keepH hKp (by simp))) rfl (vk K),λ_ _ _ _ hm hs K=>zZ hs rfl (hm.keep hcg (by simp [zO,blk])) (.s (.s (.s (.s (.s (.s (.s (.s (.s (.s (.s (.s .z)))))))))))) isAgg89 rfl (vk K),λ_ _ _ _ hm hs K=>zB (v:=zI Kc.now) hs (.c rfl .n) call44 (zaP c p Kc _ (hm.keepH hKp (by simp))) rfl (vk K),⟨rfl,by kernel_rfl,λ_=>rfl,rfl,rfl,trivial⟩,λ_=>rfl,?_⟩
 refine goE 0 [] [4,3,2] .n ?_
 intro a w hs;exact zFI hs rfl rfl rfl rfl ⟨rfl,rfl⟩
theorem zTg (c:zAG) (cg sp:Nat) (p:KP) (fr:Nat) (σ:Stt) (Kc:KS) (X:HA) (hX:Sto sp c.keep σ X) (w0:World) (hcg:(blk cg [zI c.ring,zI c.window,zI c.base,zI c.gain,zI c.least,zI c.most,zI c.slack,zI c.num,zI c.den,zI c.extra,.bool (c.curve),pt sp 0,pt p.k 0,nI fr] 91).p w0) (hXp:X.p w0) (hKp:(zF0 c p Kc).p w0):Calls Tryz.prog 14 #[pt cg 0] w0 (Ret w0 [] λz N=>N=[row z 2 1 σ.l.length (iV (σ.l.map zAH.t))]):=by
 have ho:=hX.oks;have ho1:=ho.le;have ho2:=ho.m64
 refine zG (F0:=[(0,pt cg 0)]) func14 rfl rfl rfl (.c .n) (Mem.nil _) ?_
 refine go 6 [] [8,3] .n ?_
 intro a w hs;refine zK hs (.c rfl .n) call33 .n (zMJ c cg sp p _ σ _ hX _ (hs.mem.keep hcg (by simp [zO,blk])) (hs.mem.keepH hXp (by simp))) rfl ?_;clear hs w a;rintro u1 _ a w ⟨L2,hL3,rfl⟩ hs
 refine zAC hs rfl (zP (hs.mem.del .z)).isSl underlying37 rfl ?_
 refine goL 1 [] [11,10,9,3] .n ?_
 intro a w hs;have hivL:=zEc (hs.mem.del (.s .z))
 have hlL:L2.length=σ.l.length:=by rw [← zAO,(by assumption:sns L2=σ.l)]
 replace hs:=hs.addNil 2 1
 replace hs:=hs.rerow .z (m':=0) (xs':=(iV ((L2.take 0).map RI.t))) (rfl) (rfl)
 refine zCU (λmm_ a w=>∃ j:Nat,∃ z:Value,mm_=L2.length-j∧St 22 [(3,z),(9,u1),(10,nI L2.length),(11,zI (j:Int))] w0 [] [row z 2 1 j (iV ((L2.take j).map RI.t)),row u1 46 3 L2.length (L2.flatMap snV),rws 48 L2] a w∧j≤L2.length) ⟨0,.slice none 0 0,rfl,hs.sub (.c rfl (.c rfl (.c rfl (.c rfl .n)))),by omega⟩ ?_
 clear hs w a;rintro mm_ a w ⟨j,z,rfl,hs,hI1_0⟩
 revert a w hs
 refine go 1 [] [12,3,9,10,11] .n ?_
 refine ifG rfl (λc_4=>?_) (λc_4=>?_)
 ·
  refine go 0 [] [3,9,10,11] .n ?_
  intro a w hs;refine zBm (j:=j) hs rfl rfl (zP (hs.mem.del (.s .z))) rfl (by omega) underlying37 sizeOf46 rfl ?_
  intro a w hs;refine zA9 (cs:=snV (L2.getD j default)) hs rfl (zP (hs.mem.del (.s .z))) (zAh zCI L2 j (by omega)) (by rw [zAX zCI];omega) (by omega) isAgg46 sizeOf46 rfl ?_
  refine goL 6 [50,0] [18,15,9,10,11] .n (λg5=>⟨rfl,(zJ rfl (zJ rfl (zJ (hivL _ (zGB (by omega))).one zAe))),rfl,λg6=>?_⟩)
  intro a w hs;refine zBI (size:=1) (bytes:=8) hs rfl rfl (.s (.s .z)) (zAJ (m:=1) (size:=1) (hs.mem.del .z) rfl (by decide)) (by simp [Value.oneCell']) underlying56 (i:=Tryz.t2) rfl rfl rfl rfl rfl (by decide) (by omega) (by simp only [maxLen];omega) rfl ?_;intro v7
  refine cl (·.drop (.c (.s .z) .n)) ?_
  refine goL 3 [] [11,3,9,10] .n ⟨(by omega),?_⟩
  refine cl (·.rerow .z (m':=(j+1)) (xs':=(iV ((L2.take (j+1)).map RI.t))) (rfl) (zVz (by omega))) ?_
  refine cl (·.drop (.c (.s .z) .n)) ?_
  intro a w hs;refine ⟨_,?_,(j+1),v7,rfl,hs.sub (.c rfl (.c rfl (.c rfl (.c rfl .n)))),by omega⟩
  omega
 refine go 2 [] [2] .n ?_
 refine cl (·.drop (.c (.s (.s .z)) (.c (.s .z) .n))) ?_
 refine cl (·.rerow .z (m':=σ.l.length) (xs':=(iV (σ.l.map zAH.t))) (by omega) (by rw [← zUW (by assumption:sns L2=σ.l),List.take_of_length_le (by omega)])) ?_
 intro a w hs;exact fin hs rfl rfl rfl
theorem zHM {g:Nat} {c:zAG} {C:CS} {Y:HA} (hY:Cli g c C Y) (hk:zCm c=0) (hC:C.ok c) (hn:∀ i,C.σ.n i≤1000000) (hfr:C.fr≤1000000) (x:Int) (hx:R64 x) {v:Value} {m:Nat} {bs:List zN} (w0:World) (hp:Y.p w0) (hb:Rd w0 (zO [Y]) v 1 m (zC bs)):Calls Tryz.prog 18 #[pt g 0,.int .i64 x,v] w0 (Ret w0 (zO [Y]) λu N=>u=nI (zA7 c C (zA bs))∧∃ Y',N=[Y']∧Cli g c (zBG c C x (zA bs)) Y'):=by
 obtain ⟨sp,p,X,hX,rfl⟩:=hY;obtain ⟨σ,Kc,fr⟩:=C;obtain ⟨hall,hnd⟩:=hp
 rw [zB3] at hb ⊢
 refine (zV7 c g sp p fr σ Kc X x v m bs hk hC hX hn hfr hx w0 hall hnd hb).mono ?_
 rintro e w ⟨u,N,rfl,⟨rfl,X',p',rfl,h1,h2⟩,hM⟩
 exact ⟨_,_,rfl,⟨rfl,_,rfl,sp,p',X',h2,by rw [h1];rfl⟩,hM.sep⟩
theorem zLG {g:Nat} {c:zAG} {C:CS} {Y:HA} (hY:Cli g c C Y) (hk:zCm c=0) (hC:C.ok c) (hn:∀ i,C.σ.n i≤1000000) (hfr:C.fr≤1000000) (x:Int) (hx:R64 x) (w0:World) (hp:Y.p w0):Calls Tryz.prog 25 #[pt g 0,.int .i64 x] w0 (Ret w0 (zO [Y]) λu N=>∃ v,u = .agg #[.bool (zCW c C x).ready,zI (zCW c C x).time,v]∧∃ Y',N=[row v 43 6 (zCW c C x).l.length ((zCW c C x).l.flatMap zA5),Y']∧Cli g c (zQd c C x) Y'):=by
 obtain ⟨sp,p,X,hX,rfl⟩:=hY;obtain ⟨σ,Kc,fr⟩:=C;obtain ⟨hall,hnd⟩:=hp
 rw [zB3]
 refine (zVs c g sp p fr σ Kc X x hk hC hX hn hfr hx w0 hall hnd).mono ?_
 rintro e w ⟨u,N,rfl,⟨v,p',rfl,rfl,h1⟩,hM⟩
 exact ⟨_,_,rfl,⟨v,rfl,_,rfl,sp,p',X,hX,by rw [h1];rfl⟩,Mem.resep (A:=[row v 43 6 _ _]) hM⟩
theorem zM2 {g:Nat} {c:zAG} {C:CS} {Y:HA} (hY:Cli g c C Y)  (w0:World) (hp:Y.p w0):Calls Tryz.prog 17 #[pt g 0] w0 (zAf w0 (nI (C.σ.n 0))):=by
 obtain ⟨sp,p,X,hX,rfl⟩:=hY;obtain ⟨σ,Kc,fr⟩:=C;obtain ⟨hall,hnd⟩:=hp
 exact zQg c g sp p fr σ Kc X hX w0 (hall _ (by simp)) (hall _ (by simp)) (hall _ (by simp))
theorem zLt {g:Nat} {c:zAG} {C:CS} {Y:HA} (hY:Cli g c C Y)  (w0:World) (hp:Y.p w0):Calls Tryz.prog 20 #[pt g 0] w0 (zAf w0 (.tuple #[zI C.K.off,zI C.K.j,zI C.K.now])):=by
 obtain ⟨sp,p,X,hX,rfl⟩:=hY;obtain ⟨σ,Kc,fr⟩:=C;obtain ⟨hall,hnd⟩:=hp
 exact zPs c g sp p fr σ Kc X hX w0 (hall _ (by simp)) (hall _ (by simp)) (hall _ (by simp))
theorem zOr {g:Nat} {c:zAG} {C:CS} {Y:HA} (hY:Cli g c C Y) (w0:World) (hp:Y.p w0):Calls Tryz.prog 14 #[pt g 0] w0 (Ret w0 [] λz N=>N=[row z 2 1 C.σ.l.length (iV (C.σ.l.map zAH.t))]):=by
 obtain ⟨sp,p,X,hX,rfl⟩:=hY;obtain ⟨σ,Kc,fr⟩:=C;obtain ⟨hall,hnd⟩:=hp
 exact zTg c g sp p fr σ Kc X hX w0 (hall _ (by simp)) (hall _ (by simp)) (hall _ (by simp))
theorem Cli.nd {g:Nat} {c:zAG} {C:CS} {Y:HA} {w:World} (h:Cli g c C Y) (hp:Y.p w):(zO [Y]).Nodup:=by obtain ⟨_,_,_,_,rfl⟩:=h;rw [zB3];exact hp.2
theorem zQl {g:Nat} {c:zAG} {C:CS} {Y:HA} (hY:Cli g c C Y) (hk:zCm c=0) (hC:C.ok c) (hn:∀ i,C.σ.n i≤1000000) (hfr:C.fr≤1000000) (xe:EvR) (hx:R64 xe.at_) (w0:World) (hp:Y.p w0) (hb:Rd w0 (zO [Y]) xe.v 1 xe.bs.length (zC xe.bs)):Calls Tryz.prog 26 #[pt g 0,.agg #[zI xe.k,zI xe.at_,xe.v]] w0 (Ret w0 (zO [Y]) λu N=>∃ v,u = .tuple #[.agg #[.bool (⟨false,0,[]⟩ : ShR).ready,zI (⟨false,0,[]⟩ : ShR).time,v],nI (zA7 c C (zA xe.bs))]∧∃ Y',N=[row v 43 6 (⟨false,0,[]⟩ : ShR).l.length ((⟨false,0,[]⟩ : ShR).l.flatMap zA5),Y']∧Cli g c (zBG c C xe.at_ (zA xe.bs)) Y'):=by
 refine zG (F0:=[(0,pt g 0),(1,.agg #[zI xe.k,zI xe.at_,xe.v])]) func26 rfl rfl rfl (.c (.c .n)) (zAq hp (by simpa [zO] using Cli.nd hY hp)) ?_
 refine go 9 [0,1,1] [11,9,7,6,4] .n (λg1=>λg2=>⟨rfl,rfl,?_⟩)
 intro a w hs;refine zK hs (.c rfl (.c rfl (.c rfl .n))) call18 (.c (.s (.s .z)) .n) (zHM hY hk hC hn hfr xe.at_ ⟨by omega,by omega⟩ _ (hs.mem.del (.s (.s .z))) (hs.mem.rd1 hb (.c (.s (.s .z)) .n))) rfl ?_;clear hs w a;rintro _ _ a w ⟨rfl,Y3,rfl,hY4⟩ hs
 revert a w hs
 refine goL 2 [0] [5,4] (.c (.s .z) .n) ⟨rfl,?_⟩
 refine cl (·.addNil 43 6) ?_
 refine cl (·.drop (.c (.s (.s (.s .z))) .n)) ?_
 refine cl (·.reorder (.c .z (.c (.s .z) (.c .z .n)))) ?_
 intro a w hs;exact zBQ hs rfl rfl rfl (.s (.s .z)) (.z (.c (.c (.c .n)))) isAgg33 sizeOf33 (.c (.s (.s .z)) .n) ⟨_,rfl,_,rfl,hY4⟩
theorem zSV {g:Nat} {c:zAG} {C:CS} {Y:HA} (hY:Cli g c C Y) (hk:zCm c=0) (hC:C.ok c) (hn:∀ i,C.σ.n i≤1000000) (hfr:C.fr≤1000000) (xe:EvR) (hx:R64 xe.at_) (w0:World) (hp:Y.p w0) (hb:Rd w0 (zO [Y]) xe.v 1 xe.bs.length (zC xe.bs)):Calls Tryz.prog 27 #[pt g 0,.agg #[zI xe.k,zI xe.at_,xe.v]] w0 (Ret w0 (zO [Y]) λu N=>∃ v,u = .tuple #[.agg #[.bool (zCW c C xe.at_).ready,zI (zCW c C xe.at_).time,v],nI 0]∧∃ Y',N=[row v 43 6 (zCW c C xe.at_).l.length ((zCW c C xe.at_).l.flatMap zA5),Y']∧Cli g c (zQd c C xe.at_) Y'):=by
 refine zG (F0:=[(0,pt g 0),(1,.agg #[zI xe.k,zI xe.at_,xe.v])]) func27 rfl rfl rfl (.c (.c .n)) (zAq hp (by simpa [zO] using Cli.nd hY hp)) ?_
 refine go 6 [0,1] [8,6,4] .n (λg1=>λg2=>⟨rfl,?_⟩)
 intro a w hs;refine zK hs (.c rfl (.c rfl .n)) call25 (.c (.s (.s .z)) .n) (zLG hY hk hC hn hfr xe.at_ ⟨by omega,by omega⟩ _ (hs.mem.del (.s (.s .z)))) rfl ?_;clear hs w a;rintro _ _ a w ⟨v5,rfl,Y3,rfl,hY4⟩ hs
 refine zAb hs rfl rfl (.s (.s .z)) (.z (.c (.c (.c .n)))) (zJ rfl (zJ rfl (zJ (zP (hs.mem.del .z)).isSl.one zAe))) sizeOf33 rfl ?_
 refine goL 1 [] [5,4] .n ?_
 refine cl (·.drop (.c (.s (.s (.s .z))) .n)) ?_
 refine cl (·.reorder (.c (.s .z) (.c (.s .z) (.c .z .n)))) ?_
 intro a w hs;exact zBQ hs rfl rfl rfl (.s (.s .z)) (.z (.c (.c (.c .n)))) isAgg33 sizeOf33 (.c (.s (.s .z)) .n) ⟨_,rfl,_,rfl,hY4⟩
theorem zdZ {g:Nat} {c:zAG} {C:CS} {Y:HA} (hY:Cli g c C Y) (hk:zCm c=0) (hC:C.ok c) (hn:∀ i,C.σ.n i≤1000000) (hfr:C.fr≤1000000) (xe:EvR) (hx:R64 xe.at_) (w0:World) (hp:Y.p w0) (hb:Rd w0 (zO [Y]) xe.v 1 xe.bs.length (zC xe.bs)):Calls Tryz.prog 8 #[pt g 0,.agg #[zI 0,zI xe.at_,xe.v]] w0 (Ret w0 (zO [Y]) λu N=>∃ v,u = .tuple #[.agg #[.bool (⟨false,0,[]⟩ : ShR).ready,zI (⟨false,0,[]⟩ : ShR).time,v],nI (zA7 c C (zA xe.bs))]∧∃ Y',N=[row v 43 6 (⟨false,0,[]⟩ : ShR).l.length ((⟨false,0,[]⟩ : ShR).l.flatMap zA5),Y']∧Cli g c (zBG c C xe.at_ (zA xe.bs)) Y'):=by
 refine zG (F0:=[(0,pt g 0),(1,.agg #[zI 0,zI xe.at_,xe.v])]) func8 rfl rfl rfl (.c (.c .n)) (zAq hp (by simpa [zO] using Cli.nd hY hp)) ?_
 refine go 6 [0] [4,3,0] .n (λg1=>λg2=>?_)
 intro a w hs;refine zIL hs rfl ?_;intro g3
 refine goL 2 [] [14,12,4,3,0] .n ?_
 intro a w hs;refine zJs (u:=.func (.func 26) #[pt g 0] #[]) (kv':=[(0,.func (.func 26) #[pt g 0] #[])]) hs rfl rfl rfl .z underlying79 underlying3 rfl ?_
 refine goL 2 [] [16,12,4,3] .n ?_
 intro a w hs;refine zJs (u:=.func (.func 27) #[pt g 0] #[]) (kv':=[(0,.func (.func 26) #[pt g 0] #[]),(1,.func (.func 27) #[pt g 0] #[])]) hs rfl rfl rfl .z underlying79 underlying3 rfl ?_
 refine goL 3 [0] [19,17,4,3] (.c (.s (.s .z)) .n) ⟨rfl,?_⟩
 intro a w hs;refine zKj (v:=.func (.func 26) #[pt g 0] #[]) (b:=true) hs rfl rfl (.s .z) underlying79 underlying3 zeroValue36 rfl rfl rfl ?_
 refine goL 10 [0] [27,26,4] (.c .z .n) ⟨rfl,?_⟩
 intro a w hs;refine zFc (fs:=[pt g 0]) (us:=[]) hs rfl (.c rfl .n) rfl call26 (.c (.s (.s (.s .z))) .n) (zQl hY hk hC hn hfr (⟨0,xe.at_,xe.v,xe.bs⟩ : EvR) hx _ (hs.mem.del (.s (.s (.s .z)))) (hs.mem.rd1 hb (.c (.s (.s (.s .z))) .n))) rfl ?_;clear hs w a;rintro _ _ a w ⟨v6,rfl,Y4,rfl,hY5⟩ hs
 revert a w hs
 refine goL 2 [] [30,29,4] .n ?_
 intro a w hs;refine zAb hs rfl rfl (.s (.s (.s (.s .z)))) (.z (.c (.c (.c .n)))) (zJ rfl (zJ rfl (zJ (zP (hs.mem.del .z)).isSl.one zAe))) sizeOf33 rfl ?_
 refine goL 1 [] [5,4] .n ?_
 refine cl (·.drop (.c (.s (.s (.s (.s .z)))) (.c (.s (.s (.s .z))) .n))) ?_
 refine cl (·.reorder (.c (.s .z) (.c (.s .z) (.c .z .n)))) ?_
 intro a w hs;exact zBQ hs rfl rfl rfl (.s (.s .z)) (.z (.c (.c (.c .n)))) isAgg33 sizeOf33 (.c (.s (.s .z)) .n) ⟨_,rfl,_,rfl,hY5⟩
theorem zdW {g:Nat} {c:zAG} {C:CS} {Y:HA} (hY:Cli g c C Y) (hk:zCm c=0) (hC:C.ok c) (hn:∀ i,C.σ.n i≤1000000) (hfr:C.fr≤1000000) (xe:EvR) (hx:R64 xe.at_) (w0:World) (hp:Y.p w0) (hb:Rd w0 (zO [Y]) xe.v 1 xe.bs.length (zC xe.bs)):Calls Tryz.prog 8 #[pt g 0,.agg #[zI 1,zI xe.at_,xe.v]] w0 (Ret w0 (zO [Y]) λu N=>∃ v,u = .tuple #[.agg #[.bool (zCW c C xe.at_).ready,zI (zCW c C xe.at_).time,v],nI 0]∧∃ Y',N=[row v 43 6 (zCW c C xe.at_).l.length ((zCW c C xe.at_).l.flatMap zA5),Y']∧Cli g c (zQd c C xe.at_) Y'):=by
 refine zG (F0:=[(0,pt g 0),(1,.agg #[zI 1,zI xe.at_,xe.v])]) func8 rfl rfl rfl (.c (.c .n)) (zAq hp (by simpa [zO] using Cli.nd hY hp)) ?_
 refine go 6 [0] [4,3,0] .n (λg1=>λg2=>?_)
 intro a w hs;refine zIL hs rfl ?_;intro g3
 refine goL 2 [] [14,12,4,3,0] .n ?_
 intro a w hs;refine zJs (u:=.func (.func 26) #[pt g 0] #[]) (kv':=[(0,.func (.func 26) #[pt g 0] #[])]) hs rfl rfl rfl .z underlying79 underlying3 rfl ?_
 refine goL 2 [] [16,12,4,3] .n ?_
 intro a w hs;refine zJs (u:=.func (.func 27) #[pt g 0] #[]) (kv':=[(0,.func (.func 26) #[pt g 0] #[]),(1,.func (.func 27) #[pt g 0] #[])]) hs rfl rfl rfl .z underlying79 underlying3 rfl ?_
 refine goL 3 [0] [19,17,4,3] (.c (.s (.s .z)) .n) ⟨rfl,?_⟩
 intro a w hs;refine zKj (v:=.func (.func 27) #[pt g 0] #[]) (b:=true) hs rfl rfl (.s .z) underlying79 underlying3 zeroValue36 rfl rfl rfl ?_
 refine goL 10 [0] [27,26,4] (.c .z .n) ⟨rfl,?_⟩
 intro a w hs;refine zFc (fs:=[pt g 0]) (us:=[]) hs rfl (.c rfl .n) rfl call27 (.c (.s (.s (.s .z))) .n) (zSV hY hk hC hn hfr (⟨1,xe.at_,xe.v,xe.bs⟩ : EvR) hx _ (hs.mem.del (.s (.s (.s .z)))) (hs.mem.rd1 hb (.c (.s (.s (.s .z))) .n))) rfl ?_;clear hs w a;rintro _ _ a w ⟨v6,rfl,Y4,rfl,hY5⟩ hs
 revert a w hs
 refine goL 2 [] [30,29,4] .n ?_
 intro a w hs;refine zAb hs rfl rfl (.s (.s (.s (.s .z)))) (.z (.c (.c (.c .n)))) (zJ rfl (zJ rfl (zJ (zP (hs.mem.del .z)).isSl.one zAe))) sizeOf33 rfl ?_
 refine goL 1 [] [5,4] .n ?_
 refine cl (·.drop (.c (.s (.s (.s (.s .z)))) (.c (.s (.s (.s .z))) .n))) ?_
 refine cl (·.reorder (.c (.s .z) (.c (.s .z) (.c .z .n)))) ?_
 intro a w hs;exact zBQ hs rfl rfl rfl (.s (.s .z)) (.z (.c (.c (.c .n)))) isAgg33 sizeOf33 (.c (.s (.s .z)) .n) ⟨_,rfl,_,rfl,hY5⟩
theorem zdY {g:Nat} {c:zAG} {C:CS} {Y:HA} (hY:Cli g c C Y) (hk:zCm c=0) (hC:C.ok c) (hn:∀ i,C.σ.n i≤1000000) (hfr:C.fr≤1000000) (xe:EvR) (hx:R64 xe.at_) (w0:World) (hp:Y.p w0) (hb:Rd w0 (zO [Y]) xe.v 1 xe.bs.length (zC xe.bs)) (h0:xe.k≠0) (h1:xe.k≠1):Calls Tryz.prog 8 #[pt g 0,.agg #[zI xe.k,zI xe.at_,xe.v]] w0 (Ret w0 (zO [Y]) λu N=>∃ v,u = .tuple #[.agg #[.bool (⟨false,0,[]⟩ : ShR).ready,zI (⟨false,0,[]⟩ : ShR).time,v],nI 11]∧∃ Y',N=[row v 43 6 (⟨false,0,[]⟩ : ShR).l.length ((⟨false,0,[]⟩ : ShR).l.flatMap zA5),Y']∧Cli g c C Y'):=by
 refine zG (F0:=[(0,pt g 0),(1,.agg #[zI xe.k,zI xe.at_,xe.v])]) func8 rfl rfl rfl (.c (.c .n)) (zAq hp (by simpa [zO] using Cli.nd hY hp)) ?_
 refine go 6 [0] [4,3,0] .n (λg1=>λg2=>?_)
 intro a w hs;refine zIL hs rfl ?_;intro g3
 refine goL 2 [] [14,12,4,3,0] .n ?_
 intro a w hs;refine zJs (u:=.func (.func 26) #[pt g 0] #[]) (kv':=[(0,.func (.func 26) #[pt g 0] #[])]) hs rfl rfl rfl .z underlying79 underlying3 rfl ?_
 refine goL 2 [] [16,12,4,3] .n ?_
 intro a w hs;refine zJs (u:=.func (.func 27) #[pt g 0] #[]) (kv':=[(0,.func (.func 26) #[pt g 0] #[]),(1,.func (.func 27) #[pt g 0] #[])]) hs rfl rfl rfl .z underlying79 underlying3 rfl ?_
 refine goL 3 [0] [19,17,4,3] (.c (.s (.s .z)) .n) ⟨rfl,?_⟩
 intro a w hs;refine zKj (v:=.nilFunc) (b:=false) hs rfl rfl (.s .z) underlying79 underlying3 zeroValue36 (by rw [zOz h0 h1];rfl) (by rw [zOz h0 h1];rfl) rfl ?_
 refine goL 11 [0] [5,4] (.c (.s (.s .z)) .n) ⟨rfl,?_⟩
 refine cl (·.addNil 43 6) ?_
 refine cl (·.drop (.c (.s (.s (.s .z))) (.c (.s (.s .z)) .n))) ?_
 refine cl (·.reorder (.c .z (.c (.s .z) (.c .z .n)))) ?_
 intro a w hs;exact zBQ hs rfl rfl rfl (.s (.s .z)) (.z (.c (.c (.c .n)))) isAgg33 sizeOf33 (.c (.s (.s .z)) .n) ⟨_,rfl,_,rfl,hY⟩
theorem zXK {g:Nat} {c:zAG} {C:CS} {Y:HA} (hY:Cli g c C Y) (hk:zCm c=0) (hC:C.ok c) (hn:∀ i,C.σ.n i≤1000000) (hfr:C.fr≤1000000) (xe:EvR) (hx:R64 xe.at_) (w0:World) (hp:Y.p w0) (hb:Rd w0 (zO [Y]) xe.v 1 xe.bs.length (zC xe.bs)) (hxk:R64 xe.k):Calls Tryz.prog 8 #[pt g 0,.agg #[zI xe.k,zI xe.at_,xe.v]] w0 (Ret w0 (zO [Y]) λu N=>∃ v,u = .tuple #[.agg #[.bool (zGY c C xe).ready,zI (zGY c C xe).time,v],nI (zLw c C xe)]∧∃ Y',N=[row v 43 6 (zGY c C xe).l.length ((zGY c C xe).l.flatMap zA5),Y']∧Cli g c (cDo c C xe) Y'):=by
 by_cases h0:xe.k=0
 ·have h:=zdZ hY hk hC hn hfr xe hx w0 hp hb
  rw [show zGY c C xe=⟨false,0,[]⟩ from if_neg (by omega),show zLw c C xe=zA7 c C (zA xe.bs) from if_pos h0,show cDo c C xe=zBG c C xe.at_ (zA xe.bs) from if_pos h0,h0]
  exact h
 ·by_cases h1:xe.k=1
  ·have h:=zdW hY hk hC hn hfr xe hx w0 hp hb
   rw [show zGY c C xe=zCW c C xe.at_ from if_pos h1,show zLw c C xe=0 from (if_neg h0).trans (if_pos h1),show cDo c C xe=zQd c C xe.at_ from (if_neg h0).trans (if_pos h1),h1]
   exact h
  ·have h:=zdY hY hk hC hn hfr xe hx w0 hp hb h0 h1
   rw [show zGY c C xe=⟨false,0,[]⟩ from if_neg h1,show zLw c C xe=11 from (if_neg h0).trans (if_neg h1),show cDo c C xe=C from (if_neg h0).trans (if_neg h1)]
   exact h
theorem zZI (g:Nat) (m:List zS) (u:Value) (l:List zS) (w0:World) (hg:(mpr g (ekv m)).p w0) (hc:Rd w0 (zO [mpr g (ekv m)]) u 9 l.length (l.flatMap zBJ)) (ht:Two m l) (hm:m.length≤100000) (hl:l.length≤100000):Calls Tryz.prog 79 #[.map (some g),u] w0 (Ret w0 (zO [mpr g (ekv m)]) λx N=>∃ v,x = .tuple #[v,nI (mE m l)]∧N=[row v 55 9 (mL m l).length ((mL m l).flatMap zEA)]):=by
 have hce:=hc.le
 simp only [maxLen] at hce
 refine zG (F0:=[(0,.map (some g)),(1,u)]) func79 rfl rfl rfl (.c (.c .n)) (zAq hg (by simp [mpr])) ?_
 refine go 4 [] [15,6,0] .n ?_
 intro a w hs;refine zAC hs rfl (hs.rd0 hc).isSl underlying44 rfl ?_
 refine goL 1 [] [17,16,15,6,0] .n ?_
 refine cl (·.addNil 55 9) ?_
 refine cl (·.rerow .z (m':=([]:List zW).length) (xs':=(([]:List zW).flatMap zEA)) (rfl) (rfl)) ?_
 intro a w hs;refine zCU (λmm_ a w=>∃ j:Nat,∃ p:Value,∃ out:List zW,∃ mm:List zS,mm_=l.length-j∧St 89 [(0,.map (some g)),(6,p),(15,u),(16,nI l.length),(17,zI (j:Int))] w0 (zO [mpr g (ekv m)]) [row p 55 9 out.length (out.flatMap zEA),mpr g (ekv mm)] a w∧j≤l.length∧(zCL m l=(zCL mm (l.drop j)).map (λs=>(out++s.1,s.2)))∧out.length≤j∧mm.length≤m.length) ⟨0,.slice none 0 0,[],m,rfl,hs.sub (.c rfl (.c rfl (.c rfl (.c rfl (.c rfl .n))))),by omega,zc8 m l,by simp,Nat.le_refl _⟩ ?_
 clear hs w a;rintro mm_ a w ⟨j,p,out,mm,rfl,hs,hI1_0,hI1_1,hI1_2,hI1_3⟩
 revert a w hs
 refine go 1 [] [18,0,6,15,16,17] .n ?_
 refine ifG rfl (λc_1=>?_) (λc_1=>?_)
 ·
  refine go 0 [] [0,6,15,16,17] .n ?_
  intro a w hs;refine zBm (j:=j) hs rfl rfl (hs.rd0 hc) rfl (by omega) underlying44 sizeOf48 rfl ?_
  intro a w hs;refine zA9 (cs:=zBJ (l.getD j default)) hs rfl (hs.rd0 hc) (zAh zBd l j (by omega)) (by rw [zAX zBd];omega) (by omega) isAgg48 sizeOf48 rfl ?_
  refine goL 5 [0,0] [24,22,8,0,6,15,16,17] .n (λg2=>⟨rfl,rfl,?_⟩)
  intro a w hs;refine zOT hs rfl rfl (.s (.s .z)) underlying156 underlying3 zeroValue48 rfl ?_
  refine goL 9 [0,1] [30,28,10,9,8,0,6,15,16,17] (.c .z .n) (λg3=>⟨rfl,rfl,?_⟩)
  intro a w hs;refine zTC hs rfl rfl (.s (.s (.s .z))) underlying156 underlying3 rfl ?_
  refine goL 2 [] [32,10,9,8,0,6,15,16,17] .n ?_
  refine ifG rfl (λc_4=>?_) (λc_4=>?_)
  ·
   have hn_:(zA2 ((l.getD j default).id) mm)=none:=zWM (by assumption)
   intro a w hs;rw [hn_] at hs
   revert a w hs
   refine go 6 [0,1,0] [37,35,10,9,8,0,6,15,16,17] (.c (.s .z) (.c (.s .z) .n)) ⟨rfl,rfl,rfl,?_⟩
   intro a w hs;refine zMZ (X:=(l.getD j default).g) (Y:=0#8) hs rfl rfl rfl (by decide) rfl ?_
   refine goL 4 [] [50,11,10,9,8,0,6,15,16,17] .n ?_
   refine zZr rfl (λc_5=>?_) (λc_5=>?_)
   ·
    intro a w hs;rw [c_5] at hs
    replace c_5:=of_decide_eq_true c_5
    revert a w hs
    refine go 3 [] [5,4] .n ?_
    have hz:=zIh ht (zLR (by omega) hI1_1 (zOS hn_ (by omega)))
    refine cl (·.addNil 55 9) ?_
    intro a w hs;replace hs:=hs.rerow .z (m':=(mL m l).length) (xs':=((mL m l).flatMap zEA)) (by rw [hz.2];rfl) (by rw [hz.2];rfl)
    replace hs:=hs.drop (.c (.s (.s (.s (.s .z)))) (.c (.s (.s (.s .z))) (.c (.s (.s .z)) (.c (.s .z) .n))))
    exact zBR hs rfl rfl rfl ⟨_,congrArg (λz:Nat=>Value.tuple #[.slice none 0 0,zI (z:Int)]) hz.1.symm,rfl⟩
   intro a w hs;rw [c_5] at hs
   replace c_5:=of_decide_eq_false c_5
   revert a w hs
   refine go 7 [] [50,10,9,8,0,6,15,16,17] .n ?_
   refine ifG rfl (λc_6=>?_) (λc_6=>?_)
   ·
    refine go 2 [] [5,4] .n ?_
    have hz:=zIh ht (zLR (by omega) hI1_1 (zOS hn_ (by omega)))
    refine cl (·.addNil 55 9) ?_
    intro a w hs;replace hs:=hs.rerow .z (m':=(mL m l).length) (xs':=((mL m l).flatMap zEA)) (by rw [hz.2];rfl) (by rw [hz.2];rfl)
    replace hs:=hs.drop (.c (.s (.s (.s (.s .z)))) (.c (.s (.s (.s .z))) (.c (.s (.s .z)) (.c (.s .z) .n))))
    exact zBR hs rfl rfl rfl ⟨_,congrArg (λz:Nat=>Value.tuple #[.slice none 0 0,zI (z:Int)]) hz.1.symm,rfl⟩
   refine go 15 [0,0,0,0] [72,62,0,15,16,17] (.c (.s .z) .n) ⟨rfl,rfl,rfl,rfl,λg7=>?_⟩
   intro a w hs;refine zBI (size:=9) (bytes:=72) hs rfl rfl (.s (.s (.s (.s .z)))) (zAJ (m:=1) (size:=9) (hs.mem.del .z) rfl (by decide)) (by simp [Value.oneCell']) underlying60 (i:=Tryz.t55) rfl rfl rfl rfl rfl (by decide) (by omega) (by simp only [maxLen];omega) rfl ?_;intro v8
   refine cl (·.drop (.c (.s .z) .n)) ?_
   refine goL 3 [] [17,6,0,15,16] .n ⟨(by omega),?_⟩
   have hT:=zJM (by omega) hI1_1 (zVZ hn_ (by omega))
   have hol:(out++[zD6 (l.getD j default)]).length≤j+1:=by have:=hI1_2;rw [List.length_append];simp;omega
   have hml:=zIH (l.getD j default).id mm
   intro a w hs;replace hs:=hs.rerow .z (m':=(out++[zD6 (l.getD j default)]).length) (xs':=((out++[zD6 (l.getD j default)]).flatMap zEA)) (by rw [List.length_append];rfl) (by rw [List.flatMap_append];rfl)
   replace hs:=hs.drop (.c (.s (.s .z)) (.c (.s .z) .n))
   refine ⟨_,?_,j+1,v8,out++[zD6 (l.getD j default)],zGO (l.getD j default).id mm,rfl,hs.sub (.c rfl (.c rfl (.c rfl (.c rfl (.c rfl .n))))),by omega,hT,hol,Nat.le_trans hml hI1_3⟩
   omega
  obtain ⟨o,ho⟩:=zOk (by assumption:(zA2 ((l.getD j default).id) mm).isSome=true)
  intro a w hs;rw [ho] at hs
  revert a w hs
  refine go 4 [0,1] [37,35,10,9,8,0,6,15,16,17] (.c (.s (.s .z)) (.c (.s .z) .n)) ⟨rfl,rfl,?_⟩
  intro a w hs;refine zMZ (X:=(l.getD j default).g) (Y:=o.g) hs rfl rfl rfl rfl rfl ?_
  refine goL 4 [] [50,11,10,9,8,0,6,15,16,17] .n ?_
  refine zZr rfl (λc_9=>?_) (λc_9=>?_)
  ·
   intro a w hs;rw [c_9] at hs
   replace c_9:=of_decide_eq_true c_9
   revert a w hs
   refine go 3 [] [5,4] .n ?_
   have hz:=zIh ht (zLR (by omega) hI1_1 (zXC ho (by omega)))
   refine cl (·.addNil 55 9) ?_
   intro a w hs;replace hs:=hs.rerow .z (m':=(mL m l).length) (xs':=((mL m l).flatMap zEA)) (by rw [hz.2];rfl) (by rw [hz.2];rfl)
   replace hs:=hs.drop (.c (.s (.s (.s (.s .z)))) (.c (.s (.s (.s .z))) (.c (.s (.s .z)) (.c (.s .z) .n))))
   exact zBR hs rfl rfl rfl ⟨_,congrArg (λz:Nat=>Value.tuple #[.slice none 0 0,zI (z:Int)]) hz.1.symm,rfl⟩
  intro a w hs;rw [c_9] at hs
  replace c_9:=of_decide_eq_false c_9
  revert a w hs
  refine go 14 [0,1] [41,40,0,6,15,16,17] (.c (.s .z) (.c .z .n)) ⟨rfl,rfl,?_⟩
  intro a w hs;refine zB (v:=.tuple #[.agg #[zI (((zAE o (l.getD j default)).1).k),zI (((zAE o (l.getD j default)).1).id),zI (((zAE o (l.getD j default)).1).p0),zI (((zAE o (l.getD j default)).1).p1),zI (((zAE o (l.getD j default)).1).p2),zI (((zAE o (l.getD j default)).1).v0),zI (((zAE o (l.getD j default)).1).v1),zI (((zAE o (l.getD j default)).1).v2),.int .u16 (((((zAE o (l.getD j default)).1).a).toNat:Nat):Int)],.bool ((zAE o (l.getD j default)).2)]) hs (.c rfl (.c rfl .n)) call114 (zaQ o (l.getD j default) _) rfl ?_
  refine goL 7 [0] [45,12,0,6,15,16,17] .n (λg10=>⟨rfl,?_⟩)
  refine ifG rfl (λc_11=>?_) (λc_11=>?_)
  ·
   refine go 3 [0] [48,46,0,15,16,17] (.c .z .n) ⟨rfl,λg12=>?_⟩
   intro a w hs;refine zBI (size:=9) (bytes:=72) hs rfl rfl (.s (.s (.s (.s (.s .z))))) (zAJ (m:=1) (size:=9) (hs.mem.del .z) rfl (by decide)) (by simp [Value.oneCell']) underlying60 (i:=Tryz.t55) rfl rfl rfl rfl rfl (by decide) (by omega) (by simp only [maxLen];omega) rfl ?_;intro v13
   refine cl (·.drop (.c (.s .z) .n)) ?_
   refine goL 3 [] [17,6,0,15,16] .n ⟨(by omega),?_⟩
   have hT:=zJM (by omega) hI1_1 (zOe ho (by omega))
   have hol:(out++zDE o (l.getD j default)).length≤j+1:=by have:=hI1_2;rw [List.length_append];have:=zMV o (l.getD j default);omega
   have hml:=zIH (l.getD j default).id mm
   intro a w hs;replace hs:=hs.rerow .z (m':=(out++zDE o (l.getD j default)).length) (xs':=((out++zDE o (l.getD j default)).flatMap zEA)) (by rw [zTp (by assumption),List.length_append];rfl) (by rw [zTp (by assumption),List.flatMap_append];rfl)
   replace hs:=hs.drop (.c (.s (.s (.s .z))) (.c (.s (.s .z)) (.c (.s .z) .n)))
   refine ⟨_,?_,j+1,v13,out++zDE o (l.getD j default),zGO (l.getD j default).id mm,rfl,hs.sub (.c rfl (.c rfl (.c rfl (.c rfl (.c rfl .n))))),by omega,hT,hol,Nat.le_trans hml hI1_3⟩
   omega
  refine go 2 [] [17,0,6,15,16] .n ⟨(by omega),?_⟩
  have hT:=zJM (by omega) hI1_1 (zOe ho (by omega))
  have hol:(out++zDE o (l.getD j default)).length≤j+1:=by have:=hI1_2;rw [List.length_append];have:=zMV o (l.getD j default);omega
  have hml:=zIH (l.getD j default).id mm
  refine cl (·.rerow (.s (.s (.s (.s .z)))) (m':=(out++zDE o (l.getD j default)).length) (xs':=((out++zDE o (l.getD j default)).flatMap zEA)) (by rw [zTr (by assumption),List.append_nil]) (by rw [zTr (by assumption),List.append_nil])) ?_
  refine cl (·.drop (.c (.s (.s (.s .z))) (.c (.s (.s .z)) (.c (.s .z) .n)))) ?_
  intro a w hs;refine ⟨_,?_,j+1,p,out++zDE o (l.getD j default),zGO (l.getD j default).id mm,rfl,hs.sub (.c rfl (.c rfl (.c rfl (.c rfl (.c rfl .n))))),by omega,hT,hol,Nat.le_trans hml hI1_3⟩
  omega
 refine go 1 [] [75,6] .n ?_
 intro a w hs;refine zMM hs rfl (.s .z) underlying156 rfl ?_;intro it14
 refine goL 0 [] [76,6] .n ?_
 refine cl (·.rerow (.s .z) (m':=out.length+([]:List zS).length) (xs':=((out++([]:List zS).map zGD).flatMap zEA)) (by simp) (by simp)) ?_
 intro a w hs;refine zCU (λmm_ a w=>∃ dn:List zS,∃ q:Value,mm_=mm.length-dn.length∧St 89 [(6,q),(76,pt it14 0)] w0 (zO [mpr g (ekv m)]) [row q 55 9 (out.length+dn.length) ((out++dn.map zGD).flatMap zEA),mit g it14 (ekv mm) (ekv dn)] a w∧dn.length≤mm.length) ⟨[],p,rfl,hs.sub (.c rfl (.c rfl .n)),by simp⟩ ?_
 clear hs w a;rintro mm_ a w ⟨dn,q,rfl,hs,hI2_0⟩
 revert a w hs
 refine go 0 [] [6,76] .n ?_
 intro a w hs;refine zOs hs rfl (.s .z) rfl (λhp15=>?_) (λx16 hm17 hl18=>?_)
 ·
  refine goL 3 [] [86,6] .n ?_
  intro a w hs;refine zK hs (.c rfl (.c rfl .n)) call115 (.c (.s .z) .n) (zUz (hs.mem.del (.s .z)) (by first | omega | (simp;done) | (simp;omega)) (by first | omega | (simp;omega))) rfl ?_;clear hs w a;rintro _ _ a w ⟨rfl,l19,⟨hp20,hs21⟩,rfl⟩ hs
  revert a w hs
  refine goL 3 [] [5,4] .n ?_
  have hz:=zTt ht (zUY (by omega) hI1_1) (hp20.trans ((hp15.map zGD).append_left out)) hs21
  intro a w hs;replace hs:=hs.rerow .z (m':=(mL m l).length) (xs':=((mL m l).flatMap zEA)) (by rw [hz.2,hp20.length_eq];simp) (by rw [hz.2])
  replace hs:=hs.drop (.c (.s .z) .n)
  exact zBR hs rfl rfl rfl ⟨_,congrArg (λz:Nat=>Value.tuple #[q,zI (z:Int)]) hz.1.symm,rfl⟩
 refine goL 2 [] [6,76] .n ?_
 intro a w hs;refine zMO hs rfl .z rfl ?_
 refine goL 6 [] [84,81,76] .n (λg22=>?_)
 intro a w hs;refine zBI (size:=9) (bytes:=72) hs rfl rfl (.s (.s .z)) (zAJ (m:=1) (size:=9) (hs.mem.del .z) rfl (by decide)) (by simp [Value.oneCell']) underlying60 (i:=Tryz.t55) rfl rfl rfl rfl rfl (by decide) (by omega) (by simp only [maxLen];omega) rfl ?_;intro v23
 refine cl (·.drop (.c (.s .z) .n)) ?_
 refine goL 1 [] [6,76] .n ?_
 have hal_:(dn++[x16]).length=dn.length+1:=by simp
 intro a w hs;replace hs:=hs.rerow .z (m':=out.length+(dn++[x16]).length) (xs':=((out++(dn++[x16]).map zGD).flatMap zEA)) (by rw [hal_];rfl) (by rw [List.map_append,← List.append_assoc,List.flatMap_append (xs:=out++dn.map zGD)];rfl)
 refine ⟨_,?_,dn++[x16],v23,rfl,hs.sub (.c rfl (.c rfl .n)),by omega⟩
 omega
theorem zan (t tm:Int) (u:Value) (l:List zS) (w0:World) (ht_ : -9223372036854775808≤t∧t≤9223372036854775807) (htm_ : -9223372036854775808≤tm∧tm≤9223372036854775807) (hc:Rd w0 [] u 9 l.length (l.flatMap zBJ)) (hw:∀ x∈l,x.wf):Calls Tryz.prog 47 #[.agg #[zI t,zI tm,u]] w0 (Ret w0 [] λx N=>∃ v,x = .tuple #[.agg #[zI ((fG t tm l).t),zI ((fG t tm l).tm),zI ((fG t tm l).b),v],nI (zNK t tm l)]∧N=[row v 55 9 (fG t tm l).l.length ((fG t tm l).l.flatMap zEA)]):=by
 have hce:=hc.le
 simp only [maxLen] at hce
 refine zG (F0:=[(0,.agg #[zI t,zI tm,u])]) func47 rfl rfl rfl (.c .n) (Mem.nil _) ?_
 refine go 4 [0,1] [7,2,1] .n (λg1=>λg2=>⟨rfl,?_⟩)
 intro a w hs;refine zB (v:=nI (zV t tm l)) hs (.c rfl .n) call78 (zJT t tm _ l _ (by omega) (by omega) (hs.rd0 hc)) rfl ?_
 refine goL 3 [] [10,4,2,1] .n ?_
 refine ifG rfl (λc_3=>?_) (λc_3=>?_)
 ·
  refine go 4 [0] [3,2] (.c .z .n) ⟨rfl,?_⟩
  have hE:zNK t tm l=zV t tm l:=by first | exact zTL (by omega) | (rw [zKM (by omega)]) | (rw [zKM (by omega)];omega)
  have hS:fG t tm l=⟨0,0,0,[]⟩:=zcz (by omega)
  refine cl (·.addNil 55 9) ?_
  intro a w hs;replace hs:=hs.rerow .z (m':=(fG t tm l).l.length) (xs':=((fG t tm l).l.flatMap zEA)) (by rw [hS];rfl) (by rw [hS];rfl)
  exact zBQ hs rfl rfl rfl (.s .z) (.z (.c (.c (.c (.c .n))))) isAgg62 sizeOf62 (.c (.s (.s .z)) (.c (.s .z) .n)) ⟨_,by rw [hE,hS]<;>rfl,rfl⟩
 have hsp:=zCa (by omega:zV t tm l=0)
 have ht:=zQ3 (zIO hsp.2.2.2.2.2) (zLE hsp.2.2.2.2.2) hw
 refine go 0 [] [2,1] .n ?_
 intro a w hs;refine zRX hs rfl ?_;intro g4
 refine goL 2 [0] [16,14,2,1] (.c (.s (.s .z)) .n) ⟨rfl,?_⟩
 intro a w hs;refine zK hs (.c rfl (.c rfl .n)) call79 (.c (.s .z) .n) (zZI g4 ([]) _ l _ (hs.mem.del (.s .z)) (hs.mem.rd1 hc (.c (.s .z) .n)) (by assumption) (by first | omega | (simp;done)) (by omega)) rfl ?_;clear hs w a;rintro _ _ a w ⟨v5,rfl,rfl⟩ hs
 have hk6:=zbF (by assumption:Two ([]) l)
 revert a w hs
 refine goL 7 [] [21,6,5,2,1] .n ?_
 refine ifG rfl (λc_7=>?_) (λc_7=>?_)
 ·
  refine go 4 [0] [3,2] (.c (.s (.s .z)) .n) ⟨rfl,?_⟩
  have hE:zNK t tm l=mE ([]) l:=by first | exact zTL (by omega) | (rw [zKM (by omega)]) | (rw [zKM (by omega)];omega)
  have hS:fG t tm l=⟨0,0,0,[]⟩:=zcz (by omega)
  refine cl (·.addNil 55 9) ?_
  intro a w hs;replace hs:=hs.rerow .z (m':=(fG t tm l).l.length) (xs':=((fG t tm l).l.flatMap zEA)) (by rw [hS];rfl) (by rw [hS];rfl)
  exact zBQ hs rfl rfl rfl (.s .z) (.z (.c (.c (.c (.c .n))))) isAgg62 sizeOf62 (.c (.s (.s (.s .z))) (.c (.s (.s .z)) (.c (.s .z) .n))) ⟨_,by rw [hE,hS]<;>rfl,rfl⟩
 refine go 5 [0,0] [28,27,25,2] (.c (.s .z) .n) ⟨rfl,rfl,?_⟩
 intro a w hs;refine zGc (it:=Tryz.t62) (zs:=[zI 0,zI 0,zI 0,.slice none 0 0]) (places:=[(0,1),(1,1),(2,1),(3,1)]) hs (.c rfl (.c rfl (.c rfl (.c rfl .n)))) underlying62 rfl rfl rfl rfl (.c rfl rfl (.z (.c .n)) (.c rfl rfl (.s (.z (.c .n))) (.c rfl rfl (.s (.s (.z (.c .n)))) (.c rfl (zP (hs.mem.del (.s .z))).isSl.lcells (.s (.s (.s (.z (.c .n))))) .n)))) rfl ?_
 intro a w hs;refine zAb hs rfl rfl (.s (.s .z)) (.z (.c (.c (.c (.c .n))))) (zJ rfl (zJ rfl (zJ rfl (zJ (zP (hs.mem.del (.s .z))).isSl.one zAe)))) sizeOf62 rfl ?_
 refine goL 1 [] [3,2] .n ?_
 have hE:zNK t tm l=0:=by rw [zKM (by omega)];omega
 have hS:fG t tm l=⟨t,tm,-1,mL [] l⟩:=zbX (by omega)
 refine cl (·.rerow (.s (.s .z)) (m':=(fG t tm l).l.length) (xs':=((fG t tm l).l.flatMap zEA)) (by rw [hS]) (by rw [hS])) ?_
 intro a w hs;exact zBQ hs rfl rfl rfl (.s .z) (.z (.c (.c (.c (.c .n))))) isAgg62 sizeOf62 (.c (.s (.s .z)) (.c (.s .z) .n)) ⟨_,by rw [hE,hS]<;>rfl,rfl⟩
end Go.Proofs.YtajjkegcfmhghaaGreat
