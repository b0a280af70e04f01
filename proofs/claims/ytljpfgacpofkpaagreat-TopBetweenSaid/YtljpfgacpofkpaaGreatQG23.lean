import Derived.Test.YtljpfgacpofkpaaGreatQG8
import Derived.Test.YtljpfgacpofkpaaGreatQWpose
import Derived.Test.YtljpfgacpofkpaaGreatQG18
import Derived.Test.YtljpfgacpofkpaaGreatQG22
import Derived.Test.YtljpfgacpofkpaaGreatQSxBasB
import Derived.Test.YtljpfgacpofkpaaGreatQWdel
set_option linter.unusedVariables false
set_option linter.unusedSimpArgs false
namespace Go.Proofs.YtljpfgacpofkpaaGreat
open Tryz
open Go Go.Sx Go.RowKit
set_option maxRecDepth 4000
set_option maxHeartbeats 1000000
theorem Sto.oks {p most:Nat} {σ:Stt} {X:HA} (h:Sto p most σ X):Oks σ.l most:=by obtain ⟨_,_,_,_,h,_⟩:=h;exact h
theorem zL4 (c:zAS) (cg sp:Nat) (p:KP) (fr:Nat) (σ:Stt) (X:HA) (hX:Sto sp c.keep σ X) (w0:World) (hcg:(blk cg [zI c.ring,zI c.window,zI c.base,zI c.gain,zI c.least,zI c.most,zI c.slack,zI c.num,zI c.den,zI c.extra,.bool (c.curve),pt sp 0,pt p.k 0,nI fr] 101).p w0) (hXp:X.p w0):Calls Tryz.prog 52 #[pt cg 0] w0 (Ret w0 [] λu N=>∃ L:List RI,sns L=σ.l∧N=[row u 46 3 L.length (L.flatMap snV),rws 48 L]):=by
 have ho:=hX.oks;have ho1:=ho.le;have ho2:=ho.m64
 refine zG (F0:=[(0,pt cg 0)]) func52 rfl rfl rfl (.c .n) (Mem.nil _) ?_
 refine go 5 [] [9,3,0] .n ?_
 intro a w hs;refine zAC hs rfl (hs.mem.keep hcg (by simp [zN,blk])) (.s (.s (.s (.s (.s (.s (.s (.s (.s (.s (.s .z))))))))))) isAgg97 rfl ?_
 intro a w hs;refine zB (v:=nI σ.l.length) hs (.c rfl .n) call85 (zbO hX _ (hs.mem.keepH hXp (by simp))) rfl ?_
 refine goL 1 [] [12,11,3,0] .n ?_
 refine cl (·.addNil 46 3) ?_
 refine cl (·.rerow .z (m':=([]:List RI).length) (xs':=(([]:List RI).flatMap snV)) (rfl) (rfl)) ?_
 refine cl (·.addRws 48) ?_
 refine cl (·.reorder (.c (.s .z) (.c .z .n))) ?_
 intro a w hs;refine zCC (λmm_ a w=>∃ j:Nat,∃ u:Value,∃ L:List RI,mm_=σ.l.length-j∧St 30 [(0,pt cg 0),(3,u),(11,nI σ.l.length),(12,zI (j:Int))] w0 [] [row u 46 3 L.length (L.flatMap snV),rws 48 L] a w∧j≤σ.l.length∧sns L=σ.l.take j) ⟨0,.slice none 0 0,[],rfl,hs.sub (.c rfl (.c rfl (.c rfl (.c rfl .n)))),by omega,rfl⟩ ?_
 clear hs w a;rintro mm_ a w ⟨j,u,L,rfl,hs,hI1_0,hI1_1⟩
 revert a w hs
 refine go 1 [] [13,0,3,11,12] .n ?_
 refine ifG rfl (λc_1=>?_) (λc_1=>?_)
 ·
  refine go 1 [] [14,0,3,11,12] .n ?_
  have hLl:L.length=j:=by rw [← zAO L,hI1_1,List.length_take];omega
  refine go 4 [] [18,4,0,3,11,12] .n ?_
  intro a w hs;refine zAC hs rfl (hs.mem.keep hcg (by simp [zN,blk])) (.s (.s (.s (.s (.s (.s (.s (.s (.s (.s (.s .z))))))))))) isAgg97 rfl ?_
  refine goL 1 [] [20,19,0,3,11,12] .n ?_
  intro a w hs;refine zL hs (.c rfl (.c rfl .n)) call86 .n (zcf hX (j:Int) _ (hs.mem.keepH hXp (by simp))) rfl ?_;clear hs w a;rintro _ _ a w ⟨v2,rfl,rfl⟩ hs
  revert a w hs
  refine goL 4 [] [5,23,22,0,3,11,12] .n (λg3=>?_)
  intro a w hs;refine zAU hs rfl rfl .z (.z (.c (.c (.c .n)))) (zF rfl (zF rfl (zF (zK (hs.mem.del (.s .z))).isSl.one zAX))) sizeOf46 rfl ?_
  refine goL 4 [0] [26,24,0,11,12] (.c .z .n) ⟨rfl,λg4=>?_⟩
  intro a w hs;refine zBH (size:=3) (bytes:=40) hs rfl rfl (.s (.s (.s .z))) (zAJ (m:=1) (size:=3) (hs.mem.del .z) rfl (by decide)) (zF rfl (zF rfl (zF (zK (hs.mem.del (.s (.s .z)))).isSl.one zAX))) underlying37 (i:=Tryz.t46) rfl rfl rfl rfl rfl (by decide) (by omega) (by simp only [maxLen];omega) rfl ?_;intro v5
  refine cl (·.drop (.c (.s .z) .n)) ?_
  refine goL 3 [] [12,3,0,11] .n ⟨(by omega),?_⟩
  intro a w hs;replace hs:=hs.rerow .z (m':=(L++[(⟨(sat σ.l (j:Int)).t,(sat σ.l (j:Int)).tm,(sat σ.l (j:Int)).l,v2⟩ : RI)]).length) (xs':=((L++[(⟨(sat σ.l (j:Int)).t,(sat σ.l (j:Int)).tm,(sat σ.l (j:Int)).l,v2⟩ : RI)]).flatMap snV)) (by rw [List.length_append];rfl) (by rw [List.flatMap_append];rfl)
  replace hs:=hs.rwsSnoc (x:=(⟨(sat σ.l (j:Int)).t,(sat σ.l (j:Int)).tm,(sat σ.l (j:Int)).l,v2⟩ : RI)) (.c (.s (.s (.s .z))) (.c (.s (.s .z)) .n))
  replace hs:=hs.drop (.c (.s (.s .z)) .n)
  replace hs:=hs.reorder (.c (.s .z) (.c .z .n))
  refine ⟨_,?_,(j+1),v5,(L++[(⟨(sat σ.l (j:Int)).t,(sat σ.l (j:Int)).tm,(sat σ.l (j:Int)).l,v2⟩ : RI)]),rfl,hs.sub (.c rfl (.c rfl (.c rfl (.c rfl .n)))),by omega,zYS hI1_1 (by omega)⟩
  omega
 refine go 2 [] [2] .n ?_
 intro a w hs;exact fin hs rfl rfl ⟨L,by rw [hI1_1,List.take_of_length_le (by omega)],rfl⟩
theorem zUB (c:zAS) (cg sp:Nat) (p:KP) (fr:Nat) (σ:Stt) (Kc:KS) (X:HA) (x:Int) (v:Value) (m:Nat) (bs:List zQ) (hk:zCb c=0) (hC:CS.ok c ⟨σ,Kc,fr⟩) (hX:Sto sp c.keep σ X) (hn:∀ i,σ.n i≤1000000) (hfr:fr≤1000000) (hx : -9223372036854775808≤x∧x≤9223372036854775807) (w0:World) (hM:∀ h∈([blk cg [zI c.ring,zI c.window,zI c.base,zI c.gain,zI c.least,zI c.most,zI c.slack,zI c.num,zI c.den,zI c.extra,.bool (c.curve),pt sp 0,pt p.k 0,nI fr] 101,X,zGW c p Kc]:List HA),h.p w0) (hnd:(zN [blk cg [zI c.ring,zI c.window,zI c.base,zI c.gain,zI c.least,zI c.most,zI c.slack,zI c.num,zI c.den,zI c.extra,.bool (c.curve),pt sp 0,pt p.k 0,nI fr] 101,X,zGW c p Kc]).Nodup) (hb:Rd w0 (zN [blk cg [zI c.ring,zI c.window,zI c.base,zI c.gain,zI c.least,zI c.most,zI c.slack,zI c.num,zI c.den,zI c.extra,.bool (c.curve),pt sp 0,pt p.k 0,nI fr] 101,X,zGW c p Kc]) v 1 m (zD bs)):Calls Tryz.prog 28 #[pt cg 0,.int .i64 x,v] w0 (Ret w0 (zN [blk cg [zI c.ring,zI c.window,zI c.base,zI c.gain,zI c.least,zI c.most,zI c.slack,zI c.num,zI c.den,zI c.extra,.bool (c.curve),pt sp 0,pt p.k 0,nI fr] 101,X,zGW c p Kc]) λu N=>u=nI (zG1 c (⟨σ,Kc,fr⟩ : CS) (zA bs))∧∃ (X':HA) (p':KP),N=[blk cg [zI c.ring,zI c.window,zI c.base,zI c.gain,zI c.least,zI c.most,zI c.slack,zI c.num,zI c.den,zI c.extra,.bool (c.curve),pt sp 0,pt p.k 0,nI fr] 101,X',zGW c p' (zNR c (⟨σ,Kc,fr⟩ : CS) x (zA bs)).K]∧p'.k=p.k∧Sto sp c.keep (zDA c.keep σ (zA bs)) X'):=by
 have ho:=hX.oks;have hkk:=hC.k;have hwf:=hC.wf;dsimp only at hkk hwf
 refine zG (F0:=[(0,pt cg 0),(1,zI x),(2,v)]) func28 rfl rfl rfl (.c (.c (.c .n))) (Mem.start hM rfl hnd) ?_
 refine go 9 [0] [18,17,0,1] (.c .z .n) ⟨rfl,?_⟩
 intro a w hs;refine zL hs (.c rfl (.c rfl .n)) call55 (.c (.s .z) .n) (zQH hX hn _ (hs.mem.del (.s .z)) (hs.mem.rd1 hb (.c (.s .z) .n))) rfl ?_;clear hs w a;rintro _ _ a w ⟨rfl,X1,rfl,hX2⟩ hs
 revert a w hs
 refine goL 7 [] [23,8,7,0,1] .n ?_
 refine ifG rfl (λc_3=>?_) (λc_3=>?_)
 ·
  have hz1:¬ zG1 c (⟨σ,Kc,fr⟩ : CS) (zA bs)=0:=λh=>(by assumption:((zBq σ.l c.keep σ.floor σ.gone (zA bs):Nat):Int)≠0) (by rw [show zBq σ.l c.keep σ.floor σ.gone (zA bs)=0 from h];rfl)
  refine go 2 [] [6] .n ?_
  refine cl (·.reorder (.c (.s .z) (.c .z (.c .z .n)))) ?_
  have hK2:(zNR c (⟨σ,Kc,fr⟩ : CS) x (zA bs)).K=Kc:=if_neg hz1
  intro a w hs;exact fin hs rfl rfl ⟨rfl,X1,p,by rw [hK2],rfl,hX2⟩
 have hz0:zG1 c (⟨σ,Kc,fr⟩ : CS) (zA bs)=0:=zCt (by assumption:((zBq σ.l c.keep σ.floor σ.gone (zA bs):Nat):Int)=0)
 refine go 5 [0] [30,29,0,1] (.c (.s .z) .n) ⟨rfl,?_⟩
 intro a w hs;refine zL hs (.c rfl (.c rfl .n)) call53 .n (zWr hX2 (zJb σ.l c.keep σ.floor σ.gone (zA bs)) _ (hs.mem.del (.s .z))) rfl ?_;clear hs w a;rintro _ _ a w ⟨v4,rfl,rfl⟩ hs
 have hk5:=zOk (l:=(zDA c.keep σ (zA bs)).l) hX2.oks (zJb σ.l c.keep σ.floor σ.gone (zA bs))
 revert a w hs
 refine goL 4 [] [9,33,32,0,1] .n (λg6=>?_)
 intro a w hs;refine zAU hs rfl rfl .z (.z (.c (.c (.c .n)))) (zF rfl (zF rfl (zF (zK (hs.mem.del (.s .z))).isSl.one zAX))) sizeOf46 rfl ?_
 refine goL 1 [] [9,0,1] .n ?_
 intro a w hs
 refine zH4 (Γ:=KP) (M0:=[blk g6 [zI ((zCM (zDA c.keep σ (zA bs)).l (zJb σ.l c.keep σ.floor σ.gone (zA bs))).t),zI ((zCM (zDA c.keep σ (zA bs)).l (zJb σ.l c.keep σ.floor σ.gone (zA bs))).tm),v4] 46,row v4 48 9 ((zCM (zDA c.keep σ (zA bs)).l (zJb σ.l c.keep σ.floor σ.gone (zA bs))).l.length) ((zCM (zDA c.keep σ (zA bs)).l (zJb σ.l c.keep σ.floor σ.gone (zA bs))).l.flatMap zBI),blk cg [zI c.ring,zI c.window,zI c.base,zI c.gain,zI c.least,zI c.most,zI c.slack,zI c.num,zI c.den,zI c.extra,.bool (c.curve),pt sp 0,pt p.k 0,nI fr] 101,X1]) (Ds:=λgs=>[Pv 0 (pt cg 0),Pv 1 (pt cg 0),Pv 2 (pt cg 12),Pv 3 (pt p.k 0),Pv 4 (zI x),Pv 5 (pt g6 1),Pv 6 (zI ((zCM (zDA c.keep σ (zA bs)).l (zJb σ.l c.keep σ.floor σ.gone (zA bs))).tm)),⟨[zGW c p Kc],[],[],λvs7=>vs7 7=zI 0,λvs7=>[zGW c ((gs 7).on p.k) (zYh c Kc x ((zCM (zDA c.keep σ (zA bs)).l (zJb σ.l c.keep σ.floor σ.gone (zA bs))).tm))],none⟩,Pv 8 (zI 0)]) [[],[],[],[],[],[],[],[7],[]] (default:KP) (by kernel_rfl) hs rfl (.c (.s (.s (.s (.s .z)))) .n) (by kernel_rfl) (λ_=>by kernel_rfl) (λ_ _=>rfl) (λus_ us'_=>(.c (λ_=>rfl) (.c (λ_=>rfl) (.c (λ_=>rfl) (.c (λ_=>rfl) (.c (λ_=>rfl) (.c (λ_=>rfl) (.c (λ_=>rfl) (.c (λh=>by have e7:=h 7 (by simp);simp only [e7]) (.c (λ_=>rfl) .n)))))))))) (by kernel_rfl) rfl (by kernel_rfl) (λgs=>?_) ?_
 ·
  refine (.c ?_ (.c ?_ (.c ?_ (.c ?_ (.c ?_ (.c ?_ (.c ?_ (.g ?_ (.c ?_ .n)))))))))
  · exact zAt (m:=9) .n (λhm0 hm hx=>.n) (by kernel_rfl) (by kernel_rfl) rfl
  · exact zAt (m:=9) (.c (k:=0) (by kernel_rfl) rfl rfl .n) (λhm0 hm hx=>.n) (by kernel_rfl) (by kernel_rfl) rfl
  · exact zAt (m:=9) (.c (k:=1) (by kernel_rfl) rfl rfl .n) (λhm0 hm hx=>.n) (by kernel_rfl) (by kernel_rfl) rfl
  · exact zAt (m:=9) (.c (k:=2) (by kernel_rfl) rfl rfl .n) (λhm0 hm hx=>(.c (hm0.del (.s (.s .z))))) (by kernel_rfl) (by kernel_rfl) rfl
  · exact zAt (m:=9) .n (λhm0 hm hx=>.n) (by kernel_rfl) (by kernel_rfl) rfl
  · exact zAt (m:=9) .n (λhm0 hm hx=>.n) (by kernel_rfl) (by kernel_rfl) rfl
  · exact zAt (m:=9) (.c (k:=5) (by kernel_rfl) rfl rfl .n) (λhm0 hm hx=>(.c (hm0.del .z))) (by kernel_rfl) (by kernel_rfl) rfl
  ·
   intro a_ w_ R_ rest_ vs7 hm hs ht hx
   replace hs:St _ _ _ (zN [zGW c p Kc]) [zGW c p Kc] _ _:=hs
   have hm0:=hm.mid
   replace hs:=hs.lrn (ht 3 (zJ 9 _ (by kernel_rfl))) rfl rfl
   replace hs:=hs.lrn (ht 4 (zJ 9 _ (by kernel_rfl))) rfl rfl
   replace hs:=hs.lrn (ht 6 (zJ 9 _ (by kernel_rfl))) rfl rfl
   have hs0:=hs.bare
   refine zL hs (.c rfl (.c rfl (.c rfl .n))) call56 (.c .z .n) (zXA c p Kc x ((zCM (zDA c.keep σ (zA bs)).l (zJb σ.l c.keep σ.floor σ.gone (zA bs))).tm) hk hkk ⟨by omega,by omega⟩ ⟨by omega,by omega⟩ _ (hs.mem.del .z)) rfl ?_;clear hs;rintro _ _ a w ⟨rfl,kp8,rfl⟩ hs
   exact wpList_nil ⟨rfl,(kp8),_,_,hs0,(.c (.c (.c .r))),hs,rfl⟩
  intro a_ w_ R_ rest_ vs7 hm hs ht hx
  have hm0:=hm.mid
  have t7:=ht 7 (zJ 9 _ (by kernel_rfl))
  have e7:_=some (vs7 7):=t7.val rfl
  rw [show vs7 7=zI 0 from t7.2.1] at e7
  replace hs:=hs.learn e7
  have hs0:=hs.bare
  refine zEd hs rfl rfl ?_;clear hs;intro a w hs
  exact wpList_nil ⟨rfl,_,_,hs0,(.c .r),hs,rfl⟩
 clear hs w a;intro a w vs7 gs hs hf
 replace hs:St _ _ _ _ [blk g6 [zI ((zCM (zDA c.keep σ (zA bs)).l (zJb σ.l c.keep σ.floor σ.gone (zA bs))).t),zI ((zCM (zDA c.keep σ (zA bs)).l (zJb σ.l c.keep σ.floor σ.gone (zA bs))).tm),v4] 46,row v4 48 9 ((zCM (zDA c.keep σ (zA bs)).l (zJb σ.l c.keep σ.floor σ.gone (zA bs))).l.length) ((zCM (zDA c.keep σ (zA bs)).l (zJb σ.l c.keep σ.floor σ.gone (zA bs))).l.flatMap zBI),blk cg [zI c.ring,zI c.window,zI c.base,zI c.gain,zI c.least,zI c.most,zI c.slack,zI c.num,zI c.den,zI c.extra,.bool (c.curve),pt sp 0,pt p.k 0,nI fr] 101,X1,zGW c ((gs 7).on p.k) (zYh c Kc x ((zCM (zDA c.keep σ (zA bs)).l (zJb σ.l c.keep σ.floor σ.gone (zA bs))).tm))] _ _:=hs
 obtain ⟨e8,q8⟩:=hf 8 (by decide)
 replace e8:_=some (vs7 8):=e8.val rfl
 rw [show vs7 8=zI 0 from q8] at e8
 replace hs:=hs.learn e8;clear e8 q8
 generalize (gs 7)=z9 at hs
 clear hf
 revert a w hs
 refine goE 0 [] [6] .n ?_
 refine cl (·.drop (.c (.s .z) (.c .z .n))) ?_
 have hK2:(zNR c (⟨σ,Kc,fr⟩ : CS) x (zA bs)).K=zYh c Kc x ((zCM (zDA c.keep σ (zA bs)).l (zJb σ.l c.keep σ.floor σ.gone (zA bs))).tm):=if_pos hz0
 intro a w hs;exact fin hs rfl rfl ⟨by rw [hz0];rfl,X1,(z9.on p.k),by rw [hK2],rfl,hX2⟩
theorem zVb (c:zAS) (L:List RI) (u:Value) (l:List zAD) (t:Int) (ht:R64 t) (most:Nat) (hl:sns L=l) (ho:Oks l most) (hw:Wfs l) (w0:World) (hM:∀ h∈([row u 46 3 L.length (L.flatMap snV),rws 48 L]:List HA),h.p w0):Calls Tryz.prog 60 #[.agg #[zI c.ring,zI c.window,zI c.base,zI c.gain,zI c.least,zI c.most,zI c.slack,zI c.num,zI c.den,zI c.extra,.bool (c.curve)],.int .i64 t,u] w0 (Ret w0 (zN [row u 46 3 L.length (L.flatMap snV),rws 48 L]) λz N=>∃ v,z = .tuple #[v,nI ((zB0 c l t).2)]∧N=[row v 43 6 (zB0 c l t).1.length ((zB0 c l t).1.flatMap zBk)]):=by
 subst hl
 have h:=zUD c L u t ht w0 (zbA (hM (rws 48 L) (by simp)) ho hw) (zK (hM (row u 46 3 L.length (L.flatMap snV)) (by simp)))
 rw [zN0] at h
 exact h.mono (λe w ⟨z,N,h1,h2,h3⟩=>⟨z,N,h1,h2,h3.wide⟩)
theorem zVZ (c:zAS) (cg sp:Nat) (p:KP) (fr:Nat) (σ:Stt) (Kc:KS) (X:HA) (x:Int) (hk:zCb c=0) (hC:CS.ok c ⟨σ,Kc,fr⟩) (hX:Sto sp c.keep σ X) (hn:∀ i,σ.n i≤1000000) (hfr:fr≤1000000) (hx : -9223372036854775808≤x∧x≤9223372036854775807) (w0:World) (hM:∀ h∈([blk cg [zI c.ring,zI c.window,zI c.base,zI c.gain,zI c.least,zI c.most,zI c.slack,zI c.num,zI c.den,zI c.extra,.bool (c.curve),pt sp 0,pt p.k 0,nI fr] 101,X,zGW c p Kc]:List HA),h.p w0) (hnd:(zN [blk cg [zI c.ring,zI c.window,zI c.base,zI c.gain,zI c.least,zI c.most,zI c.slack,zI c.num,zI c.den,zI c.extra,.bool (c.curve),pt sp 0,pt p.k 0,nI fr] 101,X,zGW c p Kc]).Nodup):Calls Tryz.prog 30 #[pt cg 0,.int .i64 x] w0 (Ret w0 (zN [blk cg [zI c.ring,zI c.window,zI c.base,zI c.gain,zI c.least,zI c.most,zI c.slack,zI c.num,zI c.den,zI c.extra,.bool (c.curve),pt sp 0,pt p.k 0,nI fr] 101,X,zGW c p Kc]) λu N=>∃ (v:Value) (p':KP),u = .agg #[.bool (zB1 c (⟨σ,Kc,fr⟩ : CS) x).ready,zI (zB1 c (⟨σ,Kc,fr⟩ : CS) x).time,v]∧N=[row v 43 6 (zB1 c (⟨σ,Kc,fr⟩ : CS) x).l.length ((zB1 c (⟨σ,Kc,fr⟩ : CS) x).l.flatMap zBk),blk cg [zI c.ring,zI c.window,zI c.base,zI c.gain,zI c.least,zI c.most,zI c.slack,zI c.num,zI c.den,zI c.extra,.bool (c.curve),pt sp 0,pt p.k 0,nI (fr+1)] 101,X,zGW c p' (zLF c Kc x)]∧p'.k=p.k):=by
 have ho:=hX.oks;have hkk:=hC.k;have hwf:=hC.wf;dsimp only at hkk hwf
 refine zG (F0:=[(0,pt cg 0),(1,zI x)]) func30 rfl rfl rfl (.c (.c .n)) (Mem.start hM rfl hnd) ?_
 refine go 7 [] [14,12,4,0,1] .n (λg1=>?_)
 refine go 2 [0] [16,12,4,0,1] (.c (.s .z) .n) ⟨rfl,(by omega),?_⟩
 have hv_:(((fr:Nat):Int)+1:Int)=(((fr+1:Nat):Int):Int):=by omega
 intro a w hs;rw [hv_] at hs;clear hv_
 revert a w hs
 refine go 8 [0,0] [24,23,4,0] (.c .z .n) ⟨rfl,rfl,?_⟩
 intro a w hs;refine zL hs (.c rfl (.c rfl .n)) call59 (.c (.s (.s (.s .z))) .n) (zXt c p Kc x hk hkk ⟨by omega,by omega⟩ _ (hs.mem.del (.s (.s (.s .z))))) rfl ?_;clear hs w a;rintro _ _ a w ⟨rfl,kp2,rfl⟩ hs
 revert a w hs
 refine goL 7 [] [29,5,4,0] .n ?_
 refine ifG rfl (λc_3=>?_) (λc_3=>?_)
 ·
  refine go 2 [0] [4] (.c (.s (.s .z)) .n) ⟨rfl,?_⟩
  have hS:(zB1 c (⟨σ,Kc,fr⟩ : CS) x)=⟨false,0,[]⟩:=if_neg (show ¬ 0<Kc.l2.length by assumption)
  refine cl (·.addNil 43 6) ?_
  intro a w hs;replace hs:=hs.rerow .z (m':=(zB1 c (⟨σ,Kc,fr⟩ : CS) x).l.length) (xs':=((zB1 c (⟨σ,Kc,fr⟩ : CS) x).l.flatMap zBk)) (by rw [hS];rfl) (by rw [hS];rfl)
  replace hs:=hs.reorder (.c .z (.c (.s (.s .z)) (.c (.s (.s .z)) (.c (.s .z) (.c .z .n)))))
  exact zI0 hs rfl rfl (.s (.s (.s (.s .z)))) (.z (.c (.c (.c .n)))) isAgg33 sizeOf33 (.c (.s (.s (.s (.s .z)))) .n) ⟨.slice none 0 0,(kp2.on p.k),by rw [hS],rfl,rfl⟩
 have htr:=zca (c:=c) (K:=Kc) hx hkk
 refine go 0 [] [5,4,0] .n ?_
 intro a w hs
 refine zH4 (Γ:=Value×List RI) (M0:=[zGW c (kp2.on p.k) (zLF c Kc x),blk cg [zI c.ring,zI c.window,zI c.base,zI c.gain,zI c.least,zI c.most,zI c.slack,zI c.num,zI c.den,zI c.extra,.bool (c.curve),pt sp 0,pt p.k 0,zI (((fr:Nat):Int)+1)] 101,blk g1 [.bool (false),zI 0,.slice none 0 0] 33,X]) (Ds:=λgs=>[Pv 0 (pt cg 0),Pv 1 (pt cg 0),Pv 2 (pt cg 0),Pv 3 (.agg #[zI c.ring,zI c.window,zI c.base,zI c.gain,zI c.least,zI c.most,zI c.slack,zI c.num,zI c.den,zI c.extra,.bool (c.curve)]),Pv 4 (zI (kTm c Kc x)),Pv 5 (pt cg 0),⟨[],[],[],λvs4=>vs4 6=((gs 6).1)∧sns ((gs 6).2)=σ.l,λvs4=>[row ((gs 6).1) 46 3 (((gs 6).2).length) (((gs 6).2).flatMap snV),rws 48 ((gs 6).2)],none⟩,⟨[],[6],[],λvs4=>vs4 7 = .tuple #[(zFs (vs4 7)),nI ((zB0 c σ.l (kTm c Kc x)).2)],λvs4=>[row (zFs (vs4 7)) 43 6 ((zB0 c σ.l (kTm c Kc x)).1.length) ((zB0 c σ.l (kTm c Kc x)).1.flatMap zBk)],none⟩,⟨[],[],[7],λvs4=>vs4 8 = .tuple #[(zFs (vs4 7)),nI ((zB0 c σ.l (kTm c Kc x)).2)],λvs4=>[],none⟩,⟨[],[],[7],λvs4=>vs4 9=(zFs (vs4 7)),λvs4=>[],none⟩,Pv 10 (nI ((zB0 c σ.l (kTm c Kc x)).2)),⟨[],[],[7],λvs4=>vs4 11=(zFs (vs4 7)),λvs4=>[],none⟩,Pv 12 (nI ((zB0 c σ.l (kTm c Kc x)).2))]) [[],[],[],[],[],[],[6],[],[],[],[],[],[]] ((.slice none 0 0:Value),(default:List RI)) (by kernel_rfl) hs rfl .n (by kernel_rfl) (λ_=>by kernel_rfl) (λ_ _=>rfl) (λus_ us'_=>(.c (λ_=>rfl) (.c (λ_=>rfl) (.c (λ_=>rfl) (.c (λ_=>rfl) (.c (λ_=>rfl) (.c (λ_=>rfl) (.c (λh=>by have e6:=h 6 (by simp);simp only [e6]) (.c (λ_=>rfl) (.c (λ_=>rfl) (.c (λ_=>rfl) (.c (λ_=>rfl) (.c (λ_=>rfl) (.c (λ_=>rfl) .n)))))))))))))) (by kernel_rfl) rfl (by kernel_rfl) (λgs=>?_) ?_
 ·
  refine (.c ?_ (.c ?_ (.c ?_ (.c ?_ (.c ?_ (.c ?_ (.g ?_ (.c ?_ (.c ?_ (.c ?_ (.c ?_ (.c ?_ (.c ?_ .n)))))))))))))
  · exact zAt (m:=13) .n (λhm0 hm hx=>.n) (by kernel_rfl) (by kernel_rfl) rfl
  · exact zAt (m:=13) (.c (k:=0) (by kernel_rfl) rfl rfl .n) (λhm0 hm hx=>.n) (by kernel_rfl) (by kernel_rfl) rfl
  · exact zAt (m:=13) (.c (k:=1) (by kernel_rfl) rfl rfl .n) (λhm0 hm hx=>.n) (by kernel_rfl) (by kernel_rfl) rfl
  · exact zAt (m:=13) (.c (k:=2) (by kernel_rfl) rfl rfl .n) (λhm0 hm hx=>(.c (hm0.del (.s .z)))) (by kernel_rfl) (by kernel_rfl) rfl
  · exact zAt (m:=13) .n (λhm0 hm hx=>.n) (by kernel_rfl) (by kernel_rfl) rfl
  · exact zAt (m:=13) .n (λhm0 hm hx=>.n) (by kernel_rfl) (by kernel_rfl) rfl
  ·
   intro a_ w_ R_ rest_ vs4 hm hs ht hx
   have hm0:=hm.mid
   replace hs:=hs.lrn (ht 5 (zJ 13 _ (by kernel_rfl))) rfl rfl
   have hs0:=hs.bare
   refine zL hs (.c rfl .n) call52 .n (zL4 c cg sp p _ σ _ hX _ (hm0.del (.s .z)) (hm0.del (.s (.s (.s .z))))) rfl ?_;clear hs;rintro u5 _ a w ⟨L6,hL7,rfl⟩ hs
   exact wpList_nil ⟨rfl,(u5,L6),_,_,hs0,(.c .r),hs,⟨rfl,hL7⟩⟩
  ·
   intro a_ w_ R_ rest_ vs4 hm hs ht hx
   replace hs:St _ _ _ (zN [row ((gs 6).1) 46 3 (((gs 6).2).length) (((gs 6).2).flatMap snV),rws 48 ((gs 6).2)]) [row ((gs 6).1) 46 3 (((gs 6).2).length) (((gs 6).2).flatMap snV),rws 48 ((gs 6).2)] _ _:=hs
   have hm0:=hm.mid
   replace hs:=hs.lrn (ht 3 (zJ 13 _ (by kernel_rfl))) rfl rfl
   replace hs:=hs.lrn (ht 4 (zJ 13 _ (by kernel_rfl))) rfl rfl
   have t6:=ht 6 (zJ 13 _ (by kernel_rfl))
   have e6:_=some (vs4 6):=t6.val rfl
   rw [show vs4 6=((gs 6).1) from t6.2.1.1] at e6
   have hL7:sns ((gs 6).2)=σ.l:=t6.2.1.2
   replace hs:=hs.learn e6
   have hs0:=hs.bare
   refine zL hs (.c rfl (.c rfl (.c rfl .n))) call60 (.c .z (.c .z .n)) (zVb c ((gs 6).2) ((gs 6).1) σ.l (kTm c Kc x) htr _ (by assumption) ho hwf _ (hs.mem.allX (.c .z (.c .z .n)))) rfl ?_;clear hs;rintro _ _ a w ⟨v8,rfl,rfl⟩ hs
   exact wpList_nil ⟨rfl,_,_,hs0,(.c (.c (.c .r))),hs,rfl⟩
  ·
   intro a_ w_ R_ rest_ vs4 hm hs ht hx
   have hm0:=hm.mid
   have t7:=ht 7 (zJ 13 _ (by kernel_rfl))
   have e7:_=some (vs4 7):=t7.val rfl
   rw [show vs4 7 = .tuple #[(zFs (vs4 7)),nI ((zB0 c σ.l (kTm c Kc x)).2)] from t7.2.1] at e7
   replace hs:=hs.learn e7
   have hs0:=hs.bare
   refine zGN hs rfl rfl ?_;clear hs;intro a w hs
   exact wpList_nil ⟨rfl,_,_,hs0,(.c .r),hs,rfl⟩
  ·
   intro a_ w_ R_ rest_ vs4 hm hs ht hx
   have hm0:=hm.mid
   have t8:=ht 8 (zJ 13 _ (by kernel_rfl))
   have e8:_=some (vs4 8):=t8.val rfl
   rw [show vs4 8 = .tuple #[(zFs (vs4 7)),nI ((zB0 c σ.l (kTm c Kc x)).2)] from t8.2.1] at e8
   replace hs:=hs.learn e8
   have hs0:=hs.bare
   refine zHI hs rfl .z rfl ?_;clear hs;intro a w hs
   exact wpList_nil ⟨rfl,_,_,hs0,(.c .r),hs,rfl⟩
  ·
   intro a_ w_ R_ rest_ vs4 hm hs ht hx
   have hm0:=hm.mid
   have t8:=ht 8 (zJ 13 _ (by kernel_rfl))
   have e8:_=some (vs4 8):=t8.val rfl
   rw [show vs4 8 = .tuple #[(zFs (vs4 7)),nI ((zB0 c σ.l (kTm c Kc x)).2)] from t8.2.1] at e8
   replace hs:=hs.learn e8
   have hs0:=hs.bare
   refine zHI hs rfl (.s .z) rfl ?_;clear hs;intro a w hs
   exact wpList_nil ⟨rfl,_,_,hs0,(.c .r),hs,rfl⟩
  ·
   intro a_ w_ R_ rest_ vs4 hm hs ht hx
   have hm0:=hm.mid
   have t9:=ht 9 (zJ 13 _ (by kernel_rfl))
   have e9:_=some (vs4 9):=t9.val rfl
   rw [show vs4 9=(zFs (vs4 7)) from t9.2.1] at e9
   replace hs:=hs.learn e9
   have hs0:=hs.bare
   refine zEd hs rfl rfl ?_;clear hs;intro a w hs
   exact wpList_nil ⟨rfl,_,_,hs0,(.c .r),hs,rfl⟩
  exact zAt (m:=13) (.c (k:=10) (by kernel_rfl) rfl rfl .n) (λhm0 hm hx=>.n) (by kernel_rfl) (by kernel_rfl) rfl
 clear hs w a;intro a w vs4 gs hs hf
 replace hs:St _ _ _ _ [zGW c (kp2.on p.k) (zLF c Kc x),blk cg [zI c.ring,zI c.window,zI c.base,zI c.gain,zI c.least,zI c.most,zI c.slack,zI c.num,zI c.den,zI c.extra,.bool (c.curve),pt sp 0,pt p.k 0,zI (((fr:Nat):Int)+1)] 101,blk g1 [.bool (false),zI 0,.slice none 0 0] 33,X,row (zFs (vs4 7)) 43 6 ((zB0 c σ.l (kTm c Kc x)).1.length) ((zB0 c σ.l (kTm c Kc x)).1.flatMap zBk)] _ _:=hs
 obtain ⟨e6,q6⟩:=hf 6 (by decide)
 replace e6:_=some (vs4 6):=e6.val rfl
 obtain ⟨q6,hL7⟩:=q6
 rw [show vs4 6=((gs 6).1) from q6] at e6
 replace hs:=hs.learn e6;clear e6 q6
 obtain ⟨e11,q11⟩:=hf 11 (by decide)
 replace e11:_=some (vs4 11):=e11.val rfl
 rw [show vs4 11=(zFs (vs4 7)) from q11] at e11
 replace hs:=hs.learn e11;clear e11 q11
 generalize ((gs 6).1)=v9 at hs
 generalize ((gs 6).2)=z10 at hs hL7
 generalize zFs (vs4 7)=v11 at hs
 clear hf
 revert a w hs
 refine goE 2 [] [43,42,4] .n ?_
 intro a w hs;refine zF1 (it:=Tryz.t33) (zs:=[.bool (false),zI 0,.slice none 0 0]) (places:=[(0,1),(1,1),(2,1)]) hs (.c rfl (.c rfl (.c rfl .n))) underlying33 rfl rfl rfl rfl (.c rfl rfl (.z (.c .n)) (.c rfl rfl (.s (.z (.c .n))) (.c rfl (zK (hs.mem.del (.s (.s (.s (.s .z)))))).isSl.lcells (.s (.s (.z (.c .n)))) .n))) rfl ?_
 intro a w hs;refine zAU hs rfl rfl (.s (.s .z)) (.z (.c (.c (.c .n)))) (zF rfl (zF rfl (zF (zK (hs.mem.del (.s (.s (.s (.s .z)))))).isSl.one zAX))) sizeOf33 rfl ?_
 refine goL 0 [] [4] .n ?_
 have hS:(zB1 c (⟨σ,Kc,fr⟩ : CS) x)=⟨true,kTm c Kc x,(zB0 c σ.l (kTm c Kc x)).1⟩:=if_pos (show 0<Kc.l2.length by assumption)
 refine cl (·.rerow (.s (.s (.s (.s .z)))) (m':=(zB1 c (⟨σ,Kc,fr⟩ : CS) x).l.length) (xs':=((zB1 c (⟨σ,Kc,fr⟩ : CS) x).l.flatMap zBk)) (by rw [hS]) (by rw [hS])) ?_
 refine cl (·.reorder (.c .z (.c (.s (.s .z)) (.c (.s (.s .z)) (.c (.s .z) (.c .z .n)))))) ?_
 intro a w hs;exact zI0 hs rfl rfl (.s (.s (.s (.s .z)))) (.z (.c (.c (.c .n)))) isAgg33 sizeOf33 (.c (.s (.s (.s (.s .z)))) .n) ⟨v11,(kp2.on p.k),by rw [hS],rfl,rfl⟩
def Cli (g:Nat) (c:zAS) (C:CS) (Y:HA):Prop:=∃ (sp:Nat) (p:KP) (X:HA),Sto sp c.keep C.σ X∧Y=zFy [(blk g [zI c.ring,zI c.window,zI c.base,zI c.gain,zI c.least,zI c.most,zI c.slack,zI c.num,zI c.den,zI c.extra,.bool (c.curve),pt sp 0,pt p.k 0,nI C.fr] 101),X,zGW c p C.K]
theorem zQN (c:zAS) (hk:zCb c=0) (w0:World):Calls Tryz.prog 38 #[.int .i64 c.ring] w0 (Ret w0 [] λz N=>∃ p X,z = .tuple #[pt p 0,.int .i64 0]∧N=[X]∧Sto p c.keep zaF X):=by
 obtain ⟨h1,h2,h3⟩:=zLo hk
 have h:=zbb c.keep w0 ⟨h2,h3⟩
 rw [show nI c.keep = .int .i64 c.ring from congrArg (Value.int .i64) h1] at h
 exact h
theorem zTg (c:zAS) (hk:zCb c≠0) (w0:World):Calls Tryz.prog 13 #[.agg #[zI c.ring,zI c.window,zI c.base,zI c.gain,zI c.least,zI c.most,zI c.slack,zI c.num,zI c.den,zI c.extra,.bool (c.curve)]] w0 (zAh w0 (.tuple #[.pointer none,nI (zCb c)])):=by
 refine zG (F0:=[(0,.agg #[zI c.ring,zI c.window,zI c.base,zI c.gain,zI c.least,zI c.most,zI c.slack,zI c.num,zI c.den,zI c.extra,.bool (c.curve)])]) func13 rfl rfl rfl (.c .n) (Mem.nil _) ?_
 refine go 4 [0,0] [8,1] .n (λg1=>⟨rfl,?_⟩)
 intro a w hs;refine zB (v:=.tuple #[.pointer none,nI (zCb c)]) hs (.c rfl .n) call37 (zT6 c hk _) rfl ?_
 refine goL 7 [] [13,5,4,1] .n ?_
 refine ifG rfl (λc_2=>?_) (λc_2=>?_)
 ·
  refine go 3 [] [3,2] .n ?_
  refine cl (·.drop (.c .z .n)) ?_
  intro a w hs;exact zBO hs rfl rfl rfl ⟨rfl,rfl⟩
 exfalso;omega
theorem zSI (c:zAS) (hk:zCb c=0) (w0:World):Calls Tryz.prog 13 #[.agg #[zI c.ring,zI c.window,zI c.base,zI c.gain,zI c.least,zI c.most,zI c.slack,zI c.num,zI c.den,zI c.extra,.bool (c.curve)]] w0 (Ret w0 [] λu N=>∃ (g:Nat) (Y:HA),u = .tuple #[pt g 0,.int .i64 0]∧N=[Y]∧Cli g c (C0 c) Y):=by
 refine zG (F0:=[(0,.agg #[zI c.ring,zI c.window,zI c.base,zI c.gain,zI c.least,zI c.most,zI c.slack,zI c.num,zI c.den,zI c.extra,.bool (c.curve)])]) func13 rfl rfl rfl (.c .n) (Mem.nil _) ?_
 refine go 4 [0,0] [8,1] .n (λg1=>⟨rfl,?_⟩)
 intro a w hs;refine zL hs (.c rfl .n) call37 .n (zY6 c hk _) rfl ?_;clear hs w a;rintro _ _ a w ⟨kp2,rfl,rfl⟩ hs
 revert a w hs
 refine goL 10 [0] [17,4,1] (.c (.s .z) .n) ⟨rfl,?_⟩
 intro a w hs;refine zL hs (.c rfl .n) call38 .n (zQN c hk _) rfl ?_;clear hs w a;rintro _ _ a w ⟨g3,X4,rfl,rfl,hX5⟩ hs
 revert a w hs
 refine goL 15 [0,0] [3,2] (.c (.s .z) .n) ⟨rfl,λg6=>?_⟩
 refine cl (·.drop (.c (.s .z) .n)) ?_
 intro a w hs;replace hs:=hs.memTo hs.mem.sep
 exact zBO hs rfl rfl rfl ⟨g6,_,rfl,rfl,g3,kp2,X4,hX5,rfl⟩
theorem zP8 (c:zAS) (cg sp:Nat) (p:KP) (fr:Nat) (σ:Stt) (Kc:KS) (X:HA) (hX:Sto sp c.keep σ X) (k:Int) (w0:World) (hcg:(blk cg [zI c.ring,zI c.window,zI c.base,zI c.gain,zI c.least,zI c.most,zI c.slack,zI c.num,zI c.den,zI c.extra,.bool (c.curve),pt sp 0,pt p.k 0,nI fr] 101).p w0) (hXp:X.p w0) (hKp:(zGW c p Kc).p w0):Calls Tryz.prog 24 #[pt cg 0,.int .i64 k] w0 (Ret w0 [] λz N=>∃ v,z = .tuple #[.agg #[zI (zCM σ.l k).t,zI (zCM σ.l k).tm,v],.bool (zDl σ.l k)]∧N=[row v 48 9 (zCM σ.l k).l.length ((zCM σ.l k).l.flatMap zBI)]):=by
 refine zG (F0:=[(0,pt cg 0),(1,zI k)]) func24 rfl rfl rfl (.c (.c .n)) (Mem.nil _) ?_
 refine go 8 [] [11,4,1] .n (λg1=>?_)
 intro a w hs;refine zAC hs rfl (hs.mem.keep hcg (by simp [zN,blk])) (.s (.s (.s (.s (.s (.s (.s (.s (.s (.s (.s .z))))))))))) isAgg97 rfl ?_
 refine goL 1 [] [13,12,4] .n ?_
 intro a w hs;refine zL hs (.c rfl (.c rfl .n)) call53 .n (zWr hX k _ (hs.mem.keepH hXp (by simp))) rfl ?_;clear hs w a;rintro _ _ a w ⟨v2,rfl,rfl⟩ hs
 revert a w hs
 refine goL 2 [] [16,15,4] .n ?_
 intro a w hs;refine zAU hs rfl rfl (.s .z) (.z (.c (.c (.c .n)))) (zF rfl (zF rfl (zF (zK (hs.mem.del .z)).isSl.one zAX))) sizeOf46 rfl ?_
 refine goL 1 [] [5,4] .n ?_
 intro a w hs;exact zBM hs rfl rfl rfl .z (.z (.c (.c (.c .n)))) isAgg46 sizeOf46 (.c .z .n) ⟨_,rfl,rfl⟩
theorem zQm (c:zAS) (cg sp:Nat) (p:KP) (fr:Nat) (σ:Stt) (Kc:KS) (X:HA) (hX:Sto sp c.keep σ X) (w0:World) (hcg:(blk cg [zI c.ring,zI c.window,zI c.base,zI c.gain,zI c.least,zI c.most,zI c.slack,zI c.num,zI c.den,zI c.extra,.bool (c.curve),pt sp 0,pt p.k 0,nI fr] 101).p w0) (hXp:X.p w0) (hKp:(zGW c p Kc).p w0):Calls Tryz.prog 23 #[pt cg 0] w0 (Ret w0 [] λz N=>N=[row z 2 1 σ.l.length (iV (σ.l.map zAD.t))]):=by
 have ho:=hX.oks;have ho1:=ho.le;have ho2:=ho.m64
 refine zG (F0:=[(0,pt cg 0)]) func23 rfl rfl rfl (.c .n) (Mem.nil _) ?_
 refine go 6 [] [8,3] .n ?_
 intro a w hs;refine zL hs (.c rfl .n) call52 .n (zL4 c cg sp p _ σ _ hX _ (hs.mem.keep hcg (by simp [zN,blk])) (hs.mem.keepH hXp (by simp))) rfl ?_;clear hs w a;rintro u1 _ a w ⟨L2,hL3,rfl⟩ hs
 refine zAG hs rfl (zK (hs.mem.del .z)).isSl underlying37 rfl ?_
 refine goL 1 [] [11,10,9,3] .n ?_
 intro a w hs;have hivL:=zEH (hs.mem.del (.s .z))
 have hlL:L2.length=σ.l.length:=by rw [← zAO,(by assumption:sns L2=σ.l)]
 replace hs:=hs.addNil 2 1
 replace hs:=hs.rerow .z (m':=0) (xs':=(iV ((L2.take 0).map RI.t))) (rfl) (rfl)
 refine zCC (λmm_ a w=>∃ j:Nat,∃ z:Value,mm_=L2.length-j∧St 22 [(3,z),(9,u1),(10,nI L2.length),(11,zI (j:Int))] w0 [] [row z 2 1 j (iV ((L2.take j).map RI.t)),row u1 46 3 L2.length (L2.flatMap snV),rws 48 L2] a w∧j≤L2.length) ⟨0,.slice none 0 0,rfl,hs.sub (.c rfl (.c rfl (.c rfl (.c rfl .n)))),by omega⟩ ?_
 clear hs w a;rintro mm_ a w ⟨j,z,rfl,hs,hI1_0⟩
 revert a w hs
 refine go 1 [] [12,3,9,10,11] .n ?_
 refine ifG rfl (λc_4=>?_) (λc_4=>?_)
 ·
  refine go 0 [] [3,9,10,11] .n ?_
  intro a w hs;refine zBF (j:=j) hs rfl rfl (zK (hs.mem.del (.s .z))) rfl (by omega) underlying37 sizeOf46 rfl ?_
  intro a w hs;refine zAx (cs:=snV (L2.getD j default)) hs rfl (zK (hs.mem.del (.s .z))) (zAZ zAm L2 j (by omega)) (by rw [zAN zAm];omega) (by omega) isAgg46 sizeOf46 rfl ?_
  refine goL 6 [50,0] [18,15,9,10,11] .n (λg5=>⟨rfl,(zF rfl (zF rfl (zF (hivL _ (zD1 (by omega))).one zAX))),rfl,λg6=>?_⟩)
  intro a w hs;refine zBH (size:=1) (bytes:=8) hs rfl rfl (.s (.s .z)) (zAJ (m:=1) (size:=1) (hs.mem.del .z) rfl (by decide)) (by simp [Value.oneCell']) underlying71 (i:=Tryz.t2) rfl rfl rfl rfl rfl (by decide) (by omega) (by simp only [maxLen];omega) rfl ?_;intro v7
  refine cl (·.drop (.c (.s .z) .n)) ?_
  refine goL 3 [] [11,3,9,10] .n ⟨(by omega),?_⟩
  refine cl (·.rerow .z (m':=(j+1)) (xs':=(iV ((L2.take (j+1)).map RI.t))) (rfl) (zWG (by omega))) ?_
  refine cl (·.drop (.c (.s .z) .n)) ?_
  intro a w hs;refine ⟨_,?_,(j+1),v7,rfl,hs.sub (.c rfl (.c rfl (.c rfl (.c rfl .n)))),by omega⟩
  omega
 refine go 2 [] [2] .n ?_
 refine cl (·.drop (.c (.s (.s .z)) (.c (.s .z) .n))) ?_
 refine cl (·.rerow .z (m':=σ.l.length) (xs':=(iV (σ.l.map zAD.t))) (by omega) (by rw [← zUM (by assumption:sns L2=σ.l),List.take_of_length_le (by omega)])) ?_
 intro a w hs;exact fin hs rfl rfl rfl
theorem zMh {g:Nat} {c:zAS} {C:CS} {Y:HA} (hY:Cli g c C Y) (hk:zCb c=0) (hC:C.ok c) (hn:∀ i,C.σ.n i≤1000000) (hfr:C.fr≤1000000) (x:Int) (hx:R64 x) {v:Value} {m:Nat} {bs:List zQ} (w0:World) (hp:Y.p w0) (hb:Rd w0 (zN [Y]) v 1 m (zD bs)):Calls Tryz.prog 28 #[pt g 0,.int .i64 x,v] w0 (Ret w0 (zN [Y]) λu N=>u=nI (zG1 c C (zA bs))∧∃ Y',N=[Y']∧Cli g c (zNR c C x (zA bs)) Y'):=by
 obtain ⟨sp,p,X,hX,rfl⟩:=hY;obtain ⟨σ,Kc,fr⟩:=C;obtain ⟨hall,hnd⟩:=hp
 rw [zBw] at hb ⊢
 refine (zUB c g sp p fr σ Kc X x v m bs hk hC hX hn hfr hx w0 hall hnd hb).mono ?_
 rintro e w ⟨u,N,rfl,⟨rfl,X',p',rfl,h1,h2⟩,hM⟩
 exact ⟨_,_,rfl,⟨rfl,_,rfl,sp,p',X',h2,by rw [h1];rfl⟩,hM.sep⟩
theorem zJ7 {g:Nat} {c:zAS} {C:CS} {Y:HA} (hY:Cli g c C Y) (hk:zCb c=0) (hC:C.ok c) (hn:∀ i,C.σ.n i≤1000000) (hfr:C.fr≤1000000) (x:Int) (hx:R64 x) (w0:World) (hp:Y.p w0):Calls Tryz.prog 30 #[pt g 0,.int .i64 x] w0 (Ret w0 (zN [Y]) λu N=>∃ v,u = .agg #[.bool (zB1 c C x).ready,zI (zB1 c C x).time,v]∧∃ Y',N=[row v 43 6 (zB1 c C x).l.length ((zB1 c C x).l.flatMap zBk),Y']∧Cli g c (zTQ c C x) Y'):=by
 obtain ⟨sp,p,X,hX,rfl⟩:=hY;obtain ⟨σ,Kc,fr⟩:=C;obtain ⟨hall,hnd⟩:=hp
 rw [zBw]
 refine (zVZ c g sp p fr σ Kc X x hk hC hX hn hfr hx w0 hall hnd).mono ?_
 rintro e w ⟨u,N,rfl,⟨v,p',rfl,rfl,h1⟩,hM⟩
 exact ⟨_,_,rfl,⟨v,rfl,_,rfl,sp,p',X,hX,by rw [h1];rfl⟩,Mem.resep (A:=[row v 43 6 _ _]) hM⟩
theorem zU3 {g:Nat} {c:zAS} {C:CS} {Y:HA} (hY:Cli g c C Y) (w0:World) (hp:Y.p w0):Calls Tryz.prog 23 #[pt g 0] w0 (Ret w0 [] λz N=>N=[row z 2 1 C.σ.l.length (iV (C.σ.l.map zAD.t))]):=by
 obtain ⟨sp,p,X,hX,rfl⟩:=hY;obtain ⟨σ,Kc,fr⟩:=C;obtain ⟨hall,hnd⟩:=hp
 exact zQm c g sp p fr σ Kc X hX w0 (hall _ (by simp)) (hall _ (by simp)) (hall _ (by simp))
theorem zUY {g:Nat} {c:zAS} {C:CS} {Y:HA} (hY:Cli g c C Y) (k:Int) (w0:World) (hp:Y.p w0):Calls Tryz.prog 24 #[pt g 0,.int .i64 k] w0 (Ret w0 [] λz N=>∃ v,z = .tuple #[.agg #[zI (zCM C.σ.l k).t,zI (zCM C.σ.l k).tm,v],.bool (zDl C.σ.l k)]∧N=[row v 48 9 (zCM C.σ.l k).l.length ((zCM C.σ.l k).l.flatMap zBI)]):=by
 obtain ⟨sp,p,X,hX,rfl⟩:=hY;obtain ⟨σ,Kc,fr⟩:=C;obtain ⟨hall,hnd⟩:=hp
 exact zP8 c g sp p fr σ Kc X hX k w0 (hall _ (by simp)) (hall _ (by simp)) (hall _ (by simp))
theorem zYo (g:Nat) (m:List zS) (u:Value) (l:List zS) (w0:World) (hg:(mpr g (ekv m)).p w0) (hc:Rd w0 (zN [mpr g (ekv m)]) u 9 l.length (l.flatMap zBI)) (ht:Two m l) (hm:m.length≤100000) (hl:l.length≤100000):Calls Tryz.prog 96 #[.map (some g),u] w0 (Ret w0 (zN [mpr g (ekv m)]) λx N=>∃ v,x = .tuple #[v,nI (mE m l)]∧N=[row v 161 9 (mL m l).length ((mL m l).flatMap zDv)]):=by
 have hce:=hc.le
 simp only [maxLen] at hce
 refine zG (F0:=[(0,.map (some g)),(1,u)]) func96 rfl rfl rfl (.c (.c .n)) (zAq hg (by simp [mpr])) ?_
 refine go 4 [] [15,6,0] .n ?_
 intro a w hs;refine zAG hs rfl (hs.rd0 hc).isSl underlying44 rfl ?_
 refine goL 1 [] [17,16,15,6,0] .n ?_
 refine cl (·.addNil 161 9) ?_
 refine cl (·.rerow .z (m':=([]:List zY).length) (xs':=(([]:List zY).flatMap zDv)) (rfl) (rfl)) ?_
 intro a w hs;refine zCC (λmm_ a w=>∃ j:Nat,∃ p:Value,∃ out:List zY,∃ mm:List zS,mm_=l.length-j∧St 89 [(0,.map (some g)),(6,p),(15,u),(16,nI l.length),(17,zI (j:Int))] w0 (zN [mpr g (ekv m)]) [row p 161 9 out.length (out.flatMap zDv),mpr g (ekv mm)] a w∧j≤l.length∧(zCB m l=(zCB mm (l.drop j)).map (λs=>(out++s.1,s.2)))∧out.length≤j∧mm.length≤m.length) ⟨0,.slice none 0 0,[],m,rfl,hs.sub (.c rfl (.c rfl (.c rfl (.c rfl (.c rfl .n))))),by omega,zcH m l,by simp,Nat.le_refl _⟩ ?_
 clear hs w a;rintro mm_ a w ⟨j,p,out,mm,rfl,hs,hI1_0,hI1_1,hI1_2,hI1_3⟩
 revert a w hs
 refine go 1 [] [18,0,6,15,16,17] .n ?_
 refine ifG rfl (λc_1=>?_) (λc_1=>?_)
 ·
  refine go 0 [] [0,6,15,16,17] .n ?_
  intro a w hs;refine zBF (j:=j) hs rfl rfl (hs.rd0 hc) rfl (by omega) underlying44 sizeOf48 rfl ?_
  intro a w hs;refine zAx (cs:=zBI (l.getD j default)) hs rfl (hs.rd0 hc) (zAZ zBa l j (by omega)) (by rw [zAN zBa];omega) (by omega) isAgg48 sizeOf48 rfl ?_
  refine goL 5 [0,0] [24,22,8,0,6,15,16,17] .n (λg2=>⟨rfl,rfl,?_⟩)
  intro a w hs;refine zOZ hs rfl rfl (.s (.s .z)) underlying180 underlying3 zeroValue48 rfl ?_
  refine goL 9 [0,1] [30,28,10,9,8,0,6,15,16,17] (.c .z .n) (λg3=>⟨rfl,rfl,?_⟩)
  intro a w hs;refine zSK hs rfl rfl (.s (.s (.s .z))) underlying180 underlying3 rfl ?_
  refine goL 2 [] [32,10,9,8,0,6,15,16,17] .n ?_
  refine ifG rfl (λc_4=>?_) (λc_4=>?_)
  ·
   have hn_:(zT ((l.getD j default).id) mm)=none:=zUf (by assumption)
   intro a w hs;rw [hn_] at hs
   revert a w hs
   refine go 6 [0,1,0] [37,35,10,9,8,0,6,15,16,17] (.c (.s .z) (.c (.s .z) .n)) ⟨rfl,rfl,rfl,?_⟩
   intro a w hs;refine zLf (X:=(l.getD j default).g) (Y:=0#8) hs rfl rfl rfl (by decide) rfl ?_
   refine goL 4 [] [50,11,10,9,8,0,6,15,16,17] .n ?_
   refine zZA rfl (λc_5=>?_) (λc_5=>?_)
   ·
    intro a w hs;rw [c_5] at hs
    replace c_5:=of_decide_eq_true c_5
    revert a w hs
    refine go 3 [] [5,4] .n ?_
    have hz:=zIg ht (zKa (by omega) hI1_1 (zOK hn_ (by omega)))
    refine cl (·.addNil 161 9) ?_
    intro a w hs;replace hs:=hs.rerow .z (m':=(mL m l).length) (xs':=((mL m l).flatMap zDv)) (by rw [hz.2];rfl) (by rw [hz.2];rfl)
    replace hs:=hs.drop (.c (.s (.s (.s (.s .z)))) (.c (.s (.s (.s .z))) (.c (.s (.s .z)) (.c (.s .z) .n))))
    exact zBO hs rfl rfl rfl ⟨_,congrArg (λz:Nat=>Value.tuple #[.slice none 0 0,zI (z:Int)]) hz.1.symm,rfl⟩
   intro a w hs;rw [c_5] at hs
   replace c_5:=of_decide_eq_false c_5
   revert a w hs
   refine go 7 [] [50,10,9,8,0,6,15,16,17] .n ?_
   refine ifG rfl (λc_6=>?_) (λc_6=>?_)
   ·
    refine go 2 [] [5,4] .n ?_
    have hz:=zIg ht (zKa (by omega) hI1_1 (zOK hn_ (by omega)))
    refine cl (·.addNil 161 9) ?_
    intro a w hs;replace hs:=hs.rerow .z (m':=(mL m l).length) (xs':=((mL m l).flatMap zDv)) (by rw [hz.2];rfl) (by rw [hz.2];rfl)
    replace hs:=hs.drop (.c (.s (.s (.s (.s .z)))) (.c (.s (.s (.s .z))) (.c (.s (.s .z)) (.c (.s .z) .n))))
    exact zBO hs rfl rfl rfl ⟨_,congrArg (λz:Nat=>Value.tuple #[.slice none 0 0,zI (z:Int)]) hz.1.symm,rfl⟩
   refine go 15 [0,0,0,0] [72,62,0,15,16,17] (.c (.s .z) .n) ⟨rfl,rfl,rfl,rfl,λg7=>?_⟩
   intro a w hs;refine zBH (size:=9) (bytes:=72) hs rfl rfl (.s (.s (.s (.s .z)))) (zAJ (m:=1) (size:=9) (hs.mem.del .z) rfl (by decide)) (by simp [Value.oneCell']) underlying114 (i:=Tryz.t161) rfl rfl rfl rfl rfl (by decide) (by omega) (by simp only [maxLen];omega) rfl ?_;intro v8
   refine cl (·.drop (.c (.s .z) .n)) ?_
   refine goL 3 [] [17,6,0,15,16] .n ⟨(by omega),?_⟩
   have hT:=zIR (by omega) hI1_1 (zVf hn_ (by omega))
   have hol:(out++[zDq (l.getD j default)]).length≤j+1:=by have:=hI1_2;rw [List.length_append];simp;omega
   have hml:=zHY (l.getD j default).id mm
   intro a w hs;replace hs:=hs.rerow .z (m':=(out++[zDq (l.getD j default)]).length) (xs':=((out++[zDq (l.getD j default)]).flatMap zDv)) (by rw [List.length_append];rfl) (by rw [List.flatMap_append];rfl)
   replace hs:=hs.drop (.c (.s (.s .z)) (.c (.s .z) .n))
   refine ⟨_,?_,j+1,v8,out++[zDq (l.getD j default)],zFp (l.getD j default).id mm,rfl,hs.sub (.c rfl (.c rfl (.c rfl (.c rfl (.c rfl .n))))),by omega,hT,hol,Nat.le_trans hml hI1_3⟩
   omega
  obtain ⟨o,ho⟩:=zNI (by assumption:(zT ((l.getD j default).id) mm).isSome=true)
  intro a w hs;rw [ho] at hs
  revert a w hs
  refine go 4 [0,1] [37,35,10,9,8,0,6,15,16,17] (.c (.s (.s .z)) (.c (.s .z) .n)) ⟨rfl,rfl,?_⟩
  intro a w hs;refine zLf (X:=(l.getD j default).g) (Y:=o.g) hs rfl rfl rfl rfl rfl ?_
  refine goL 4 [] [50,11,10,9,8,0,6,15,16,17] .n ?_
  refine zZA rfl (λc_9=>?_) (λc_9=>?_)
  ·
   intro a w hs;rw [c_9] at hs
   replace c_9:=of_decide_eq_true c_9
   revert a w hs
   refine go 3 [] [5,4] .n ?_
   have hz:=zIg ht (zKa (by omega) hI1_1 (zTf ho (by omega)))
   refine cl (·.addNil 161 9) ?_
   intro a w hs;replace hs:=hs.rerow .z (m':=(mL m l).length) (xs':=((mL m l).flatMap zDv)) (by rw [hz.2];rfl) (by rw [hz.2];rfl)
   replace hs:=hs.drop (.c (.s (.s (.s (.s .z)))) (.c (.s (.s (.s .z))) (.c (.s (.s .z)) (.c (.s .z) .n))))
   exact zBO hs rfl rfl rfl ⟨_,congrArg (λz:Nat=>Value.tuple #[.slice none 0 0,zI (z:Int)]) hz.1.symm,rfl⟩
  intro a w hs;rw [c_9] at hs
  replace c_9:=of_decide_eq_false c_9
  revert a w hs
  refine go 14 [0,1] [41,40,0,6,15,16,17] (.c (.s .z) (.c .z .n)) ⟨rfl,rfl,?_⟩
  intro a w hs;refine zB (v:=.tuple #[.agg #[zI (((zAH o (l.getD j default)).1).k),zI (((zAH o (l.getD j default)).1).id),zI (((zAH o (l.getD j default)).1).p0),zI (((zAH o (l.getD j default)).1).p1),zI (((zAH o (l.getD j default)).1).p2),zI (((zAH o (l.getD j default)).1).v0),zI (((zAH o (l.getD j default)).1).v1),zI (((zAH o (l.getD j default)).1).v2),.int .u16 (((((zAH o (l.getD j default)).1).a).toNat:Nat):Int)],.bool ((zAH o (l.getD j default)).2)]) hs (.c rfl (.c rfl .n)) call140 (zZC o (l.getD j default) _) rfl ?_
  refine goL 7 [0] [45,12,0,6,15,16,17] .n (λg10=>⟨rfl,?_⟩)
  refine ifG rfl (λc_11=>?_) (λc_11=>?_)
  ·
   refine go 3 [0] [48,46,0,15,16,17] (.c .z .n) ⟨rfl,λg12=>?_⟩
   intro a w hs;refine zBH (size:=9) (bytes:=72) hs rfl rfl (.s (.s (.s (.s (.s .z))))) (zAJ (m:=1) (size:=9) (hs.mem.del .z) rfl (by decide)) (by simp [Value.oneCell']) underlying114 (i:=Tryz.t161) rfl rfl rfl rfl rfl (by decide) (by omega) (by simp only [maxLen];omega) rfl ?_;intro v13
   refine cl (·.drop (.c (.s .z) .n)) ?_
   refine goL 3 [] [17,6,0,15,16] .n ⟨(by omega),?_⟩
   have hT:=zIR (by omega) hI1_1 (zNK ho (by omega))
   have hol:(out++zC1 o (l.getD j default)).length≤j+1:=by have:=hI1_2;rw [List.length_append];have:=zLd o (l.getD j default);omega
   have hml:=zHY (l.getD j default).id mm
   intro a w hs;replace hs:=hs.rerow .z (m':=(out++zC1 o (l.getD j default)).length) (xs':=((out++zC1 o (l.getD j default)).flatMap zDv)) (by rw [zSq (by assumption),List.length_append];rfl) (by rw [zSq (by assumption),List.flatMap_append];rfl)
   replace hs:=hs.drop (.c (.s (.s (.s .z))) (.c (.s (.s .z)) (.c (.s .z) .n)))
   refine ⟨_,?_,j+1,v13,out++zC1 o (l.getD j default),zFp (l.getD j default).id mm,rfl,hs.sub (.c rfl (.c rfl (.c rfl (.c rfl (.c rfl .n))))),by omega,hT,hol,Nat.le_trans hml hI1_3⟩
   omega
  refine go 2 [] [17,0,6,15,16] .n ⟨(by omega),?_⟩
  have hT:=zIR (by omega) hI1_1 (zNK ho (by omega))
  have hol:(out++zC1 o (l.getD j default)).length≤j+1:=by have:=hI1_2;rw [List.length_append];have:=zLd o (l.getD j default);omega
  have hml:=zHY (l.getD j default).id mm
  refine cl (·.rerow (.s (.s (.s (.s .z)))) (m':=(out++zC1 o (l.getD j default)).length) (xs':=((out++zC1 o (l.getD j default)).flatMap zDv)) (by rw [zTE (by assumption),List.append_nil]) (by rw [zTE (by assumption),List.append_nil])) ?_
  refine cl (·.drop (.c (.s (.s (.s .z))) (.c (.s (.s .z)) (.c (.s .z) .n)))) ?_
  intro a w hs;refine ⟨_,?_,j+1,p,out++zC1 o (l.getD j default),zFp (l.getD j default).id mm,rfl,hs.sub (.c rfl (.c rfl (.c rfl (.c rfl (.c rfl .n))))),by omega,hT,hol,Nat.le_trans hml hI1_3⟩
  omega
 refine go 1 [] [75,6] .n ?_
 intro a w hs;refine zKy hs rfl (.s .z) underlying180 rfl ?_;intro it14
 refine goL 0 [] [76,6] .n ?_
 refine cl (·.rerow (.s .z) (m':=out.length+([]:List zS).length) (xs':=((out++([]:List zS).map zFl).flatMap zDv)) (by simp) (by simp)) ?_
 intro a w hs;refine zCC (λmm_ a w=>∃ dn:List zS,∃ q:Value,mm_=mm.length-dn.length∧St 89 [(6,q),(76,pt it14 0)] w0 (zN [mpr g (ekv m)]) [row q 161 9 (out.length+dn.length) ((out++dn.map zFl).flatMap zDv),mit g it14 (ekv mm) (ekv dn)] a w∧dn.length≤mm.length) ⟨[],p,rfl,hs.sub (.c rfl (.c rfl .n)),by simp⟩ ?_
 clear hs w a;rintro mm_ a w ⟨dn,q,rfl,hs,hI2_0⟩
 revert a w hs
 refine go 0 [] [6,76] .n ?_
 intro a w hs;refine zOA hs rfl (.s .z) rfl (λhp15=>?_) (λx16 hm17 hl18=>?_)
 ·
  refine goL 3 [] [86,6] .n ?_
  intro a w hs;refine zL hs (.c rfl (.c rfl .n)) call141 (.c (.s .z) .n) (zVu (hs.mem.del (.s .z)) (by first | omega | (simp;done) | (simp;omega)) (by first | omega | (simp;omega))) rfl ?_;clear hs w a;rintro _ _ a w ⟨rfl,l19,⟨hp20,hs21⟩,rfl⟩ hs
  revert a w hs
  refine goL 3 [] [5,4] .n ?_
  have hz:=zRj ht (zUq (by omega) hI1_1) (hp20.trans ((hp15.map zFl).append_left out)) hs21
  intro a w hs;replace hs:=hs.rerow .z (m':=(mL m l).length) (xs':=((mL m l).flatMap zDv)) (by rw [hz.2,hp20.length_eq];simp) (by rw [hz.2])
  replace hs:=hs.drop (.c (.s .z) .n)
  exact zBO hs rfl rfl rfl ⟨_,congrArg (λz:Nat=>Value.tuple #[q,zI (z:Int)]) hz.1.symm,rfl⟩
 refine goL 2 [] [6,76] .n ?_
 intro a w hs;refine zLp hs rfl .z rfl ?_
 refine goL 6 [] [84,81,76] .n (λg22=>?_)
 intro a w hs;refine zBH (size:=9) (bytes:=72) hs rfl rfl (.s (.s .z)) (zAJ (m:=1) (size:=9) (hs.mem.del .z) rfl (by decide)) (by simp [Value.oneCell']) underlying114 (i:=Tryz.t161) rfl rfl rfl rfl rfl (by decide) (by omega) (by simp only [maxLen];omega) rfl ?_;intro v23
 refine cl (·.drop (.c (.s .z) .n)) ?_
 refine goL 1 [] [6,76] .n ?_
 have hal_:(dn++[x16]).length=dn.length+1:=by simp
 intro a w hs;replace hs:=hs.rerow .z (m':=out.length+(dn++[x16]).length) (xs':=((out++(dn++[x16]).map zFl).flatMap zDv)) (by rw [hal_];rfl) (by rw [List.map_append,← List.append_assoc,List.flatMap_append (xs:=out++dn.map zFl)];rfl)
 refine ⟨_,?_,dn++[x16],v23,rfl,hs.sub (.c rfl (.c rfl .n)),by omega⟩
 omega
theorem zZo (t tm:Int) (u:Value) (l:List zS) (w0:World) (ht_ : -9223372036854775808≤t∧t≤9223372036854775807) (htm_ : -9223372036854775808≤tm∧tm≤9223372036854775807) (hc:Rd w0 [] u 9 l.length (l.flatMap zBI)) (hw:∀ x∈l,x.wf):Calls Tryz.prog 57 #[.agg #[zI t,zI tm,u]] w0 (Ret w0 [] λx N=>∃ v,x = .tuple #[.agg #[zI ((fG t tm l).t),zI ((fG t tm l).tm),zI ((fG t tm l).b),v],nI (zMI t tm l)]∧N=[row v 161 9 (fG t tm l).l.length ((fG t tm l).l.flatMap zDv)]):=by
 have hce:=hc.le
 simp only [maxLen] at hce
 refine zG (F0:=[(0,.agg #[zI t,zI tm,u])]) func57 rfl rfl rfl (.c .n) (Mem.nil _) ?_
 refine go 4 [0,1] [7,2,1] .n (λg1=>λg2=>⟨rfl,?_⟩)
 intro a w hs;refine zB (v:=nI (zAB t tm l)) hs (.c rfl .n) call95 (zIT t tm _ l _ (by omega) (by omega) (hs.rd0 hc)) rfl ?_
 refine goL 3 [] [10,4,2,1] .n ?_
 refine ifG rfl (λc_3=>?_) (λc_3=>?_)
 ·
  refine go 4 [0] [3,2] (.c .z .n) ⟨rfl,?_⟩
  have hE:zMI t tm l=zAB t tm l:=by first | exact zQC (by omega) | (rw [zI3 (by omega)]) | (rw [zI3 (by omega)];omega)
  have hS:fG t tm l=⟨0,0,0,[]⟩:=zbx (by omega)
  refine cl (·.addNil 161 9) ?_
  intro a w hs;replace hs:=hs.rerow .z (m':=(fG t tm l).l.length) (xs':=((fG t tm l).l.flatMap zDv)) (by rw [hS];rfl) (by rw [hS];rfl)
  exact zBM hs rfl rfl rfl (.s .z) (.z (.c (.c (.c (.c .n))))) isAgg116 sizeOf116 (.c (.s (.s .z)) (.c (.s .z) .n)) ⟨_,by rw [hE,hS]<;>rfl,rfl⟩
 have hsp:=zCR (by omega:zAB t tm l=0)
 have ht:=zSX (zGB hsp.2.2.2.2.2) (zOR hsp.2.2.2.2.2) hw
 refine go 0 [] [2,1] .n ?_
 intro a w hs;refine zQ5 hs rfl ?_;intro g4
 refine goL 2 [0] [16,14,2,1] (.c (.s (.s .z)) .n) ⟨rfl,?_⟩
 intro a w hs;refine zL hs (.c rfl (.c rfl .n)) call96 (.c (.s .z) .n) (zYo g4 ([]) _ l _ (hs.mem.del (.s .z)) (hs.mem.rd1 hc (.c (.s .z) .n)) (by assumption) (by first | omega | (simp;done)) (by omega)) rfl ?_;clear hs w a;rintro _ _ a w ⟨v5,rfl,rfl⟩ hs
 have hk6:=zaS (by assumption:Two ([]) l)
 revert a w hs
 refine goL 7 [] [21,6,5,2,1] .n ?_
 refine ifG rfl (λc_7=>?_) (λc_7=>?_)
 ·
  refine go 4 [0] [3,2] (.c (.s (.s .z)) .n) ⟨rfl,?_⟩
  have hE:zMI t tm l=mE ([]) l:=by first | exact zQC (by omega) | (rw [zI3 (by omega)]) | (rw [zI3 (by omega)];omega)
  have hS:fG t tm l=⟨0,0,0,[]⟩:=zbx (by omega)
  refine cl (·.addNil 161 9) ?_
  intro a w hs;replace hs:=hs.rerow .z (m':=(fG t tm l).l.length) (xs':=((fG t tm l).l.flatMap zDv)) (by rw [hS];rfl) (by rw [hS];rfl)
  exact zBM hs rfl rfl rfl (.s .z) (.z (.c (.c (.c (.c .n))))) isAgg116 sizeOf116 (.c (.s (.s (.s .z))) (.c (.s (.s .z)) (.c (.s .z) .n))) ⟨_,by rw [hE,hS]<;>rfl,rfl⟩
 refine go 5 [0,0] [28,27,25,2] (.c (.s .z) .n) ⟨rfl,rfl,?_⟩
 intro a w hs;refine zF1 (it:=Tryz.t116) (zs:=[zI 0,zI 0,zI 0,.slice none 0 0]) (places:=[(0,1),(1,1),(2,1),(3,1)]) hs (.c rfl (.c rfl (.c rfl (.c rfl .n)))) underlying116 rfl rfl rfl rfl (.c rfl rfl (.z (.c .n)) (.c rfl rfl (.s (.z (.c .n))) (.c rfl rfl (.s (.s (.z (.c .n)))) (.c rfl (zK (hs.mem.del (.s .z))).isSl.lcells (.s (.s (.s (.z (.c .n))))) .n)))) rfl ?_
 intro a w hs;refine zAU hs rfl rfl (.s (.s .z)) (.z (.c (.c (.c (.c .n))))) (zF rfl (zF rfl (zF rfl (zF (zK (hs.mem.del (.s .z))).isSl.one zAX)))) sizeOf116 rfl ?_
 refine goL 1 [] [3,2] .n ?_
 have hE:zMI t tm l=0:=by rw [zI3 (by omega)];omega
 have hS:fG t tm l=⟨t,tm,-1,mL [] l⟩:=zbn (by omega)
 refine cl (·.rerow (.s (.s .z)) (m':=(fG t tm l).l.length) (xs':=((fG t tm l).l.flatMap zDv)) (by rw [hS]) (by rw [hS])) ?_
 intro a w hs;exact zBM hs rfl rfl rfl (.s .z) (.z (.c (.c (.c (.c .n))))) isAgg116 sizeOf116 (.c (.s (.s .z)) (.c (.s .z) .n)) ⟨_,by rw [hE,hS]<;>rfl,rfl⟩
theorem Cli.oks {g:Nat} {c:zAS} {C:CS} {Y:HA} (h:Cli g c C Y):Oks C.σ.l c.keep:=by obtain ⟨_,_,_,h,_⟩:=h;exact h.oks
end Go.Proofs.YtljpfgacpofkpaaGreat
