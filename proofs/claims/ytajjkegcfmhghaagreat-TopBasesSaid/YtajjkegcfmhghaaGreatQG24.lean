import Derived.Test.YtajjkegcfmhghaaGreatQG23
import Derived.Test.YtajjkegcfmhghaaGreatQSxBasB
import Derived.Test.YtajjkegcfmhghaaGreatQG8
import Derived.Test.YtajjkegcfmhghaaGreatQWpose
import Derived.Test.YtajjkegcfmhghaaGreatQG19
/- Walks of stores, seen from without: what each function does, over the program of this seat. Printed by a program of this session. -/
namespace Go.Proofs.YtajjkegcfmhghaaGreat
open Tryz
open Go Go.Sx Go.RowKit
set_option linter.unusedVariables false
set_option linter.unusedSimpArgs false
set_option maxRecDepth 4000
set_option maxHeartbeats 1000000

theorem zGD {p most:Nat} {σ:Stt} {X:HA} {w:World} (hX:Sto p most σ X) (hp:X.p w):∃ (g:Nat) (u:Value) (l:List RI),σ.l = sns l ∧ Oks (sns l) most ∧ (blk p [pt g 0,nI most,nI (σ.n 0),nI (σ.n 1),nI (σ.n 2),nI (σ.n 3),nI (σ.n 4),nI (σ.n 5),nI (σ.n 6),nI (σ.n 7),nI (σ.n 8),nI (σ.n 9),nI (σ.n 10),nI (σ.n 11),nI (σ.n 12),nI (σ.n 13),nI (σ.n 14),nI (σ.n 15),nI (σ.n 16),nI (σ.n 17)] 126).p w ∧ (blk g [u,nI most,zI σ.floor,.bool (σ.gone)] 188).p w ∧ Rd w [] u 4 l.length (l.flatMap riV) ∧ (rws 48 l).p w:=by
 obtain ⟨g,u,l,hl,ho,rfl⟩:=hX
 refine ⟨g,u,l,hl,hl ▸ ho,hp.1 _ (by simp [zZ7]),hp.1 _ (by simp [zZ7]),zO (hp.1 (row u 191 4 l.length (l.flatMap riV)) (by simp [zZ7])),hp.1 _ (by simp [zZ7])⟩
theorem zZ9 {p most:Nat} {σ:Stt} {X:HA} (hX:Sto p most σ X) (w0:World) (hp:X.p w0):Calls Tryz.prog 56 #[pt p 0] w0 (zAe w0 (nI σ.l.length)):=by
 obtain ⟨g,u,l,hl,ho,h1,h2,h3,h4⟩:=zGD hX hp
 rw [hl,zAL]
 exact zYF p g u l most σ.floor σ.gone σ.n w0 h1 h2 h3 h4 ho
theorem zVW {p most:Nat} {σ:Stt} {X:HA} (hX:Sto p most σ X) (w0:World) (hp:X.p w0):Calls Tryz.prog 37 #[pt p 0] w0 (zAe w0 (nI (σ.n 0))):=by
 obtain ⟨g,u,l,hl,ho,h1,h2,h3,h4⟩:=zGD hX hp
 exact zQD p g u l most σ.floor σ.gone σ.n w0 h1 h2 h3 h4 ho
theorem zPw {p most:Nat} {σ:Stt} {X:HA} (hX:Sto p most σ X) (e:Int) (w0:World) (hp:X.p w0) (he : -9223372036854775808 ≤ e ∧ e ≤ 9223372036854775807):Calls Tryz.prog 36 #[pt p 0,.int .i64 e] w0 (zAe w0 (nI (zFY σ.n e))):=by
 obtain ⟨g,u,l,hl,ho,h1,h2,h3,h4⟩:=zGD hX hp
 exact zMs p g u l most σ.floor σ.gone σ.n e w0 h1 h2 h3 h4 ho he
theorem zcI {p most:Nat} {σ:Stt} {X:HA} (hX:Sto p most σ X) (i:Int) (w0:World) (hp:X.p w0):Calls Tryz.prog 57 #[pt p 0,.int .i64 i] w0 (Ret w0 [] fun z N=>∃ v,z = .tuple #[.agg #[zI (sat σ.l i).t,zI (sat σ.l i).tm,v],nI (zKf σ.l i)] ∧ N = [row v 48 9 (sat σ.l i).l.length ((sat σ.l i).l.flatMap zA9)]):=by
 obtain ⟨g,u,l,hl,ho,h1,h2,h3,h4⟩:=zGD hX hp
 rw [hl,← zEV l i]
 exact zap p g u l most σ.floor σ.gone σ.n i w0 h1 h2 h3 h4 ho
theorem zak {p most:Nat} {σ:Stt} {X:HA} (hX:Sto p most σ X) (k:Int) (w0:World) (hp:X.p w0):Calls Tryz.prog 39 #[pt p 0,.int .i64 k] w0 (Ret w0 [] fun z N=>∃ v,z = .tuple #[.agg #[zI (zFK σ.l k).t,zI (zFK σ.l k).tm,v],.bool (zCR σ.l k)] ∧ N = [row v 48 9 (zFK σ.l k).l.length ((zFK σ.l k).l.flatMap zA9)]):=by
 obtain ⟨g,u,l,hl,ho,h1,h2,h3,h4⟩:=zGD hX hp
 rw [hl,← zJt l k ho.srt]
 exact zZj p g u l most σ.floor σ.gone σ.n k w0 h1 h2 h3 h4 ho
theorem zTD {p most:Nat} {σ:Stt} {X:HA} (hX:Sto p most σ X) (hN:∀ i,σ.n i ≤ 1000000) {v:Value} {m:Nat} {bs:List zP} (w0:World) (hp:X.p w0) (hb:Rd w0 (zL [X]) v 1 m (zC bs)):Calls Tryz.prog 38 #[pt p 0,v] w0 (Ret w0 (zL [X]) fun z Nn=>z = .tuple #[zI (zJD σ.l most σ.floor σ.gone (zA bs)),nI (zBF σ.l most σ.floor σ.gone (zA bs))] ∧ ∃ X',Nn = [X'] ∧ Sto p most (zBp most σ (zA bs)) X'):=by
 have hok:=hX.imp fun g h=>h
 obtain ⟨g,u,l,hl,ho,rfl⟩:=hX
 obtain ⟨L,fl,gone,N⟩:=σ
 simp only at hl ho hN
 subst hl
 obtain ⟨hall,hnd⟩:=hp
 rw [zBu] at hb ⊢
 refine (zRJ p g u l most fl gone N v m bs w0 hall hnd ho hN hb).mono ?_
 rintro e w' ⟨z,Nn,rfl,⟨rfl,u',l',hl',rfl⟩,hM⟩
 exact ⟨_,_,rfl,⟨rfl,_,rfl,g,u',l',hl',zHy (σ:=⟨sns l,fl,gone,N⟩) ho,rfl⟩,hM.sep⟩
theorem zaW (k:Nat) (w0:World) (hk:1 ≤ k ∧ k ≤ 64):Calls Tryz.prog 46 #[nI k] w0 (Ret w0 [] fun z N=>∃ p X,z = .tuple #[pt p 0,.int .i64 0] ∧ N = [X] ∧ Sto p k zWa X):=by
 refine (zXX k w0 hk).mono ?_
 rintro e w' ⟨z,Nn,rfl,⟨p,g,rfl,rfl⟩,hM⟩
 exact ⟨_,_,rfl,⟨p,_,rfl,rfl,g,_,[],rfl,zYS hk,rfl⟩,hM.sep⟩

end Go.Proofs.YtajjkegcfmhghaaGreat
/- Walks of the client: what each function does, over the program of this seat. Printed by a program of this session. -/
namespace Go.Proofs.YtajjkegcfmhghaaGreat
open Tryz
open Go Go.Sx Go.RowKit
set_option linter.unusedVariables false
set_option linter.unusedSimpArgs false
set_option maxRecDepth 4000
set_option maxHeartbeats 1000000

theorem Sto.oks {p most:Nat} {σ:Stt} {X:HA} (h:Sto p most σ X):Oks σ.l most:=by obtain ⟨_,_,_,_,h,_⟩:=h;exact h
theorem zK9 (c:zAO) (cg sp:Nat) (p:KP) (fr:Nat) (σ:Stt) (X:HA) (hX:Sto sp c.keep σ X) (w0:World) (hcg:(blk cg [zI c.ring,zI c.window,zI c.base,zI c.gain,zI c.least,zI c.most,zI c.slack,zI c.num,zI c.den,zI c.extra,.bool (c.curve),pt sp 0,pt p.k 0,nI fr] 91).p w0) (hXp:X.p w0):Calls Tryz.prog 33 #[pt cg 0] w0 (Ret w0 [] fun u N=>∃ L:List RI,sns L = σ.l ∧ N = [row u 46 3 L.length (L.flatMap snV),rws 48 L]):=by
 have ho:=hX.oks;have ho1:=ho.le;have ho2:=ho.m64
 refine zD (F0:=[(0,pt cg 0)]) func33 rfl rfl rfl (.c .n) (Mem.nil _) ?_
 refine go 5 [] [9,3,0] .n ?_
 intro a w hs;refine zU hs rfl (hs.mem.keep hcg (by simp [zL,blk])) (.s (.s (.s (.s (.s (.s (.s (.s (.s (.s (.s .z))))))))))) isAgg88 rfl ?_
 intro a w hs;refine zB (v:=nI σ.l.length) hs (.c rfl .n) call56 (zZ9 hX _ (hs.mem.keepH hXp (by simp))) rfl ?_
 refine goL 1 [] [12,11,3,0] .n ?_
 refine cl (·.addNil 46 3) ?_
 refine cl (·.rerow .z (m':=([]:List RI).length) (xs':=(([]:List RI).flatMap snV)) (rfl) (rfl)) ?_
 refine cl (·.addRws 48) ?_
 refine cl (·.reorder (.c (.s .z) (.c .z .n))) ?_
 intro a w hs;refine zCJ (fun mm_ a w=>∃ j:Nat,∃ u:Value,∃ L:List RI,mm_ = σ.l.length - j ∧ St 30 [(0,pt cg 0),(3,u),(11,nI σ.l.length),(12,zI (j:Int))] w0 [] [row u 46 3 L.length (L.flatMap snV),rws 48 L] a w ∧ j ≤ σ.l.length ∧ sns L = σ.l.take j) ⟨0,.slice none 0 0,[],rfl,hs.sub (.c rfl (.c rfl (.c rfl (.c rfl .n)))),by omega,rfl⟩ ?_
 clear hs w a;rintro mm_ a w ⟨j,u,L,rfl,hs,hI1_0,hI1_1⟩
 revert a w hs
 refine go 1 [] [13,0,3,11,12] .n ?_
 refine ifG rfl (fun c_1=>?_) (fun c_1=>?_)
 ·
  refine go 1 [] [14,0,3,11,12] .n ?_
  have hLl:L.length = j:=by rw [← zAL L,hI1_1,List.length_take];omega
  refine go 4 [] [18,4,0,3,11,12] .n ?_
  intro a w hs;refine zU hs rfl (hs.mem.keep hcg (by simp [zL,blk])) (.s (.s (.s (.s (.s (.s (.s (.s (.s (.s (.s .z))))))))))) isAgg88 rfl ?_
  refine goL 1 [] [20,19,0,3,11,12] .n ?_
  intro a w hs;refine zK hs (.c rfl (.c rfl .n)) call57 .n (zcI hX (j:Int) _ (hs.mem.keepH hXp (by simp))) rfl ?_;clear hs w a;rintro _ _ a w ⟨v2,rfl,rfl⟩ hs
  revert a w hs
  refine goL 4 [] [5,23,22,0,3,11,12] .n (fun g3=>?_)
  intro a w hs;refine zAg hs rfl rfl .z (.z (.c (.c (.c .n)))) (zH rfl (zH rfl (zH (zO (hs.mem.del (.s .z))).isSl.one zAf))) sizeOf46 rfl ?_
  refine goL 4 [0] [26,24,0,11,12] (.c .z .n) ⟨rfl,fun g4=>?_⟩
  intro a w hs;refine zBD (size:=3) (bytes:=40) hs rfl rfl (.s (.s (.s .z))) (zAF (m:=1) (size:=3) (hs.mem.del .z) rfl (by decide)) (zH rfl (zH rfl (zH (zO (hs.mem.del (.s (.s .z)))).isSl.one zAf))) underlying37 (i:=Tryz.t46) rfl rfl rfl rfl rfl (by decide) (by omega) (by simp only [maxLen];omega) rfl ?_;intro v5
  refine cl (·.drop (.c (.s .z) .n)) ?_
  refine goL 3 [] [12,3,0,11] .n ⟨(by omega),?_⟩
  intro a w hs;replace hs:=hs.rerow .z (m':=(L ++ [(⟨(sat σ.l (j:Int)).t,(sat σ.l (j:Int)).tm,(sat σ.l (j:Int)).l,v2⟩ : RI)]).length) (xs':=((L ++ [(⟨(sat σ.l (j:Int)).t,(sat σ.l (j:Int)).tm,(sat σ.l (j:Int)).l,v2⟩ : RI)]).flatMap snV)) (by rw [List.length_append];rfl) (by rw [List.flatMap_append];rfl)
  replace hs:=hs.rwsSnoc (x:=(⟨(sat σ.l (j:Int)).t,(sat σ.l (j:Int)).tm,(sat σ.l (j:Int)).l,v2⟩ : RI)) (.c (.s (.s (.s .z))) (.c (.s (.s .z)) .n))
  replace hs:=hs.drop (.c (.s (.s .z)) .n)
  replace hs:=hs.reorder (.c (.s .z) (.c .z .n))
  refine ⟨_,?_,(j + 1),v5,(L ++ [(⟨(sat σ.l (j:Int)).t,(sat σ.l (j:Int)).tm,(sat σ.l (j:Int)).l,v2⟩ : RI)]),rfl,hs.sub (.c rfl (.c rfl (.c rfl (.c rfl .n)))),by omega,zXK hI1_1 (by omega)⟩
  omega
 refine go 2 [] [2] .n ?_
 intro a w hs;exact fin hs rfl rfl ⟨L,by rw [hI1_1,List.take_of_length_le (by omega)],rfl⟩
theorem zV0 (c:zAO) (cg sp:Nat) (p:KP) (fr:Nat) (σ:Stt) (Kc:KS) (X:HA) (x:Int) (v:Value) (m:Nat) (bs:List zP) (hk:zCT c = 0) (hC:CS.ok c ⟨σ,Kc,fr⟩) (hX:Sto sp c.keep σ X) (hn:∀ i,σ.n i ≤ 1000000) (hfr:fr ≤ 1000000) (hx : -9223372036854775808 ≤ x ∧ x ≤ 9223372036854775807) (w0:World) (hM:∀ h ∈ ([blk cg [zI c.ring,zI c.window,zI c.base,zI c.gain,zI c.least,zI c.most,zI c.slack,zI c.num,zI c.den,zI c.extra,.bool (c.curve),pt sp 0,pt p.k 0,nI fr] 91,X,zF2 c p Kc]:List HA),h.p w0) (hnd:(zL [blk cg [zI c.ring,zI c.window,zI c.base,zI c.gain,zI c.least,zI c.most,zI c.slack,zI c.num,zI c.den,zI c.extra,.bool (c.curve),pt sp 0,pt p.k 0,nI fr] 91,X,zF2 c p Kc]).Nodup) (hb:Rd w0 (zL [blk cg [zI c.ring,zI c.window,zI c.base,zI c.gain,zI c.least,zI c.most,zI c.slack,zI c.num,zI c.den,zI c.extra,.bool (c.curve),pt sp 0,pt p.k 0,nI fr] 91,X,zF2 c p Kc]) v 1 m (zC bs)):Calls Tryz.prog 18 #[pt cg 0,.int .i64 x,v] w0 (Ret w0 (zL [blk cg [zI c.ring,zI c.window,zI c.base,zI c.gain,zI c.least,zI c.most,zI c.slack,zI c.num,zI c.den,zI c.extra,.bool (c.curve),pt sp 0,pt p.k 0,nI fr] 91,X,zF2 c p Kc]) fun u N=>u = nI (zEN c (⟨σ,Kc,fr⟩ : CS) (zA bs)) ∧ ∃ (X':HA) (p':KP),N = [blk cg [zI c.ring,zI c.window,zI c.base,zI c.gain,zI c.least,zI c.most,zI c.slack,zI c.num,zI c.den,zI c.extra,.bool (c.curve),pt sp 0,pt p.k 0,nI fr] 91,X',zF2 c p' (zIw c (⟨σ,Kc,fr⟩ : CS) x (zA bs)).K] ∧ p'.k = p.k ∧ Sto sp c.keep (zBp c.keep σ (zA bs)) X'):=by
 have ho:=hX.oks;have hkk:=hC.k;have hwf:=hC.wf;dsimp only at hkk hwf
 refine zD (F0:=[(0,pt cg 0),(1,zI x),(2,v)]) func18 rfl rfl rfl (.c (.c (.c .n))) (Mem.start hM rfl hnd) ?_
 refine go 9 [0] [18,17,0,1] (.c .z .n) ⟨rfl,?_⟩
 intro a w hs;refine zK hs (.c rfl (.c rfl .n)) call38 (.c (.s .z) .n) (zTD hX hn _ (hs.mem.del (.s .z)) (hs.mem.rd1 hb (.c (.s .z) .n))) rfl ?_;clear hs w a;rintro _ _ a w ⟨rfl,X1,rfl,hX2⟩ hs
 revert a w hs
 refine goL 7 [] [23,8,7,0,1] .n ?_
 refine ifG rfl (fun c_3=>?_) (fun c_3=>?_)
 ·
  have hz1:¬ zEN c (⟨σ,Kc,fr⟩ : CS) (zA bs) = 0:=fun h=>(by assumption:((zBF σ.l c.keep σ.floor σ.gone (zA bs):Nat):Int) ≠ 0) (by rw [show zBF σ.l c.keep σ.floor σ.gone (zA bs) = 0 from h];rfl)
  refine go 2 [] [6] .n ?_
  refine cl (·.reorder (.c (.s .z) (.c .z (.c .z .n)))) ?_
  have hK2:(zIw c (⟨σ,Kc,fr⟩ : CS) x (zA bs)).K = Kc:=if_neg hz1
  intro a w hs;exact fin hs rfl rfl ⟨rfl,X1,p,by rw [hK2],rfl,hX2⟩
 have hz0:zEN c (⟨σ,Kc,fr⟩ : CS) (zA bs) = 0:=zCv (by assumption:((zBF σ.l c.keep σ.floor σ.gone (zA bs):Nat):Int) = 0)
 refine go 5 [0] [30,29,0,1] (.c (.s .z) .n) ⟨rfl,?_⟩
 intro a w hs;refine zK hs (.c rfl (.c rfl .n)) call39 .n (zak hX2 (zJD σ.l c.keep σ.floor σ.gone (zA bs)) _ (hs.mem.del (.s .z))) rfl ?_;clear hs w a;rintro _ _ a w ⟨v4,rfl,rfl⟩ hs
 have hk5:=zNy (l:=(zBp c.keep σ (zA bs)).l) hX2.oks (zJD σ.l c.keep σ.floor σ.gone (zA bs))
 revert a w hs
 refine goL 4 [] [9,33,32,0,1] .n (fun g6=>?_)
 intro a w hs;refine zAg hs rfl rfl .z (.z (.c (.c (.c .n)))) (zH rfl (zH rfl (zH (zO (hs.mem.del (.s .z))).isSl.one zAf))) sizeOf46 rfl ?_
 refine goL 1 [] [9,0,1] .n ?_
 intro a w hs
 refine zIg (Γ:=KP) (M0:=[blk g6 [zI ((zFK (zBp c.keep σ (zA bs)).l (zJD σ.l c.keep σ.floor σ.gone (zA bs))).t),zI ((zFK (zBp c.keep σ (zA bs)).l (zJD σ.l c.keep σ.floor σ.gone (zA bs))).tm),v4] 46,row v4 48 9 ((zFK (zBp c.keep σ (zA bs)).l (zJD σ.l c.keep σ.floor σ.gone (zA bs))).l.length) ((zFK (zBp c.keep σ (zA bs)).l (zJD σ.l c.keep σ.floor σ.gone (zA bs))).l.flatMap zA9),blk cg [zI c.ring,zI c.window,zI c.base,zI c.gain,zI c.least,zI c.most,zI c.slack,zI c.num,zI c.den,zI c.extra,.bool (c.curve),pt sp 0,pt p.k 0,nI fr] 91,X1]) (Ds:=fun gs=>[Pv 0 (pt cg 0),Pv 1 (pt cg 0),Pv 2 (pt cg 12),Pv 3 (pt p.k 0),Pv 4 (zI x),Pv 5 (pt g6 1),Pv 6 (zI ((zFK (zBp c.keep σ (zA bs)).l (zJD σ.l c.keep σ.floor σ.gone (zA bs))).tm)),⟨[zF2 c p Kc],[],[],fun vs7=>vs7 7 = zI 0,fun vs7=>[zF2 c ((gs 7).on p.k) (zYE c Kc x ((zFK (zBp c.keep σ (zA bs)).l (zJD σ.l c.keep σ.floor σ.gone (zA bs))).tm))],none⟩,Pv 8 (zI 0)]) [[],[],[],[],[],[],[],[7],[]] (default:KP) (by kernel_rfl) hs rfl (.c (.s (.s (.s (.s .z)))) .n) (by kernel_rfl) (fun _=>by kernel_rfl) (fun _ _=>rfl) (fun us_ us'_=>(.c (fun _=>rfl) (.c (fun _=>rfl) (.c (fun _=>rfl) (.c (fun _=>rfl) (.c (fun _=>rfl) (.c (fun _=>rfl) (.c (fun _=>rfl) (.c (fun h=>by have e7:=h 7 (by simp);simp only [e7]) (.c (fun _=>rfl) .n)))))))))) (by kernel_rfl) rfl (by kernel_rfl) (fun gs=>?_) ?_
 ·
  refine (.c ?_ (.c ?_ (.c ?_ (.c ?_ (.c ?_ (.c ?_ (.c ?_ (.g ?_ (.c ?_ .n)))))))))
  · exact zAn (m:=9) .n (fun hm0 hm hx=>.n) (by kernel_rfl) (by kernel_rfl) rfl
  · exact zAn (m:=9) (.c (k:=0) (by kernel_rfl) rfl rfl .n) (fun hm0 hm hx=>.n) (by kernel_rfl) (by kernel_rfl) rfl
  · exact zAn (m:=9) (.c (k:=1) (by kernel_rfl) rfl rfl .n) (fun hm0 hm hx=>.n) (by kernel_rfl) (by kernel_rfl) rfl
  · exact zAn (m:=9) (.c (k:=2) (by kernel_rfl) rfl rfl .n) (fun hm0 hm hx=>(.c (hm0.del (.s (.s .z))))) (by kernel_rfl) (by kernel_rfl) rfl
  · exact zAn (m:=9) .n (fun hm0 hm hx=>.n) (by kernel_rfl) (by kernel_rfl) rfl
  · exact zAn (m:=9) .n (fun hm0 hm hx=>.n) (by kernel_rfl) (by kernel_rfl) rfl
  · exact zAn (m:=9) (.c (k:=5) (by kernel_rfl) rfl rfl .n) (fun hm0 hm hx=>(.c (hm0.del .z))) (by kernel_rfl) (by kernel_rfl) rfl
  ·
   intro a_ w_ R_ rest_ vs7 hm hs ht hx
   replace hs:St _ _ _ (zL [zF2 c p Kc]) [zF2 c p Kc] _ _:=hs
   have hm0:=hm.mid
   replace hs:=hs.lrn (ht 3 (zJ 9 _ (by kernel_rfl))) rfl rfl
   replace hs:=hs.lrn (ht 4 (zJ 9 _ (by kernel_rfl))) rfl rfl
   replace hs:=hs.lrn (ht 6 (zJ 9 _ (by kernel_rfl))) rfl rfl
   have hs0:=hs.bare
   refine zK hs (.c rfl (.c rfl (.c rfl .n))) call40 (.c .z .n) (zZY c p Kc x ((zFK (zBp c.keep σ (zA bs)).l (zJD σ.l c.keep σ.floor σ.gone (zA bs))).tm) hk hkk ⟨by omega,by omega⟩ ⟨by omega,by omega⟩ _ (hs.mem.del .z)) rfl ?_;clear hs;rintro _ _ a w ⟨rfl,kp8,rfl⟩ hs
   exact wpList_nil ⟨rfl,(kp8),_,_,hs0,(.c (.c (.c .r))),hs,rfl⟩
  intro a_ w_ R_ rest_ vs7 hm hs ht hx
  have hm0:=hm.mid
  have t7:=ht 7 (zJ 9 _ (by kernel_rfl))
  have e7:_ = some (vs7 7):=t7.val rfl
  rw [show vs7 7 = zI 0 from t7.2.1] at e7
  replace hs:=hs.learn e7
  have hs0:=hs.bare
  refine zEZ hs rfl rfl ?_;clear hs;intro a w hs
  exact wpList_nil ⟨rfl,_,_,hs0,(.c .r),hs,rfl⟩
 clear hs w a;intro a w vs7 gs hs hf
 replace hs:St _ _ _ _ [blk g6 [zI ((zFK (zBp c.keep σ (zA bs)).l (zJD σ.l c.keep σ.floor σ.gone (zA bs))).t),zI ((zFK (zBp c.keep σ (zA bs)).l (zJD σ.l c.keep σ.floor σ.gone (zA bs))).tm),v4] 46,row v4 48 9 ((zFK (zBp c.keep σ (zA bs)).l (zJD σ.l c.keep σ.floor σ.gone (zA bs))).l.length) ((zFK (zBp c.keep σ (zA bs)).l (zJD σ.l c.keep σ.floor σ.gone (zA bs))).l.flatMap zA9),blk cg [zI c.ring,zI c.window,zI c.base,zI c.gain,zI c.least,zI c.most,zI c.slack,zI c.num,zI c.den,zI c.extra,.bool (c.curve),pt sp 0,pt p.k 0,nI fr] 91,X1,zF2 c ((gs 7).on p.k) (zYE c Kc x ((zFK (zBp c.keep σ (zA bs)).l (zJD σ.l c.keep σ.floor σ.gone (zA bs))).tm))] _ _:=hs
 obtain ⟨e8,q8⟩:=hf 8 (by decide)
 replace e8:_ = some (vs7 8):=e8.val rfl
 rw [show vs7 8 = zI 0 from q8] at e8
 replace hs:=hs.learn e8;clear e8 q8
 generalize (gs 7) = z9 at hs
 clear hf
 revert a w hs
 refine goE 0 [] [6] .n ?_
 refine cl (·.drop (.c (.s .z) (.c .z .n))) ?_
 have hK2:(zIw c (⟨σ,Kc,fr⟩ : CS) x (zA bs)).K = zYE c Kc x ((zFK (zBp c.keep σ (zA bs)).l (zJD σ.l c.keep σ.floor σ.gone (zA bs))).tm):=if_pos hz0
 intro a w hs;exact fin hs rfl rfl ⟨by rw [hz0];rfl,X1,(z9.on p.k),by rw [hK2],rfl,hX2⟩
theorem zTh (c:zAO) (L:List RI) (u:Value) (l:List zAC) (t:Int) (ht:R64 t) (most:Nat) (hl:sns L = l) (ho:Oks l most) (hw:Wfs l) (w0:World) (hM:∀ h ∈ ([row u 46 3 L.length (L.flatMap snV),rws 48 L]:List HA),h.p w0):Calls Tryz.prog 49 #[.agg #[zI c.ring,zI c.window,zI c.base,zI c.gain,zI c.least,zI c.most,zI c.slack,zI c.num,zI c.den,zI c.extra,.bool (c.curve)],.int .i64 t,u] w0 (Ret w0 (zL [row u 46 3 L.length (L.flatMap snV),rws 48 L]) fun z N=>∃ v,z = .tuple #[v,nI ((zCU c l t).2)] ∧ N = [row v 43 6 (zCU c l t).1.length ((zCU c l t).1.flatMap zBt)]):=by
 subst hl
 have h:=zUo c L u t ht w0 (za3 (hM (rws 48 L) (by simp)) ho hw) (zO (hM (row u 46 3 L.length (L.flatMap snV)) (by simp)))
 rw [zV3] at h
 exact h.mono (fun e w ⟨z,N,h1,h2,h3⟩=>⟨z,N,h1,h2,h3.wide⟩)
theorem zUw (c:zAO) (cg sp:Nat) (p:KP) (fr:Nat) (σ:Stt) (Kc:KS) (X:HA) (x:Int) (hk:zCT c = 0) (hC:CS.ok c ⟨σ,Kc,fr⟩) (hX:Sto sp c.keep σ X) (hn:∀ i,σ.n i ≤ 1000000) (hfr:fr ≤ 1000000) (hx : -9223372036854775808 ≤ x ∧ x ≤ 9223372036854775807) (w0:World) (hM:∀ h ∈ ([blk cg [zI c.ring,zI c.window,zI c.base,zI c.gain,zI c.least,zI c.most,zI c.slack,zI c.num,zI c.den,zI c.extra,.bool (c.curve),pt sp 0,pt p.k 0,nI fr] 91,X,zF2 c p Kc]:List HA),h.p w0) (hnd:(zL [blk cg [zI c.ring,zI c.window,zI c.base,zI c.gain,zI c.least,zI c.most,zI c.slack,zI c.num,zI c.den,zI c.extra,.bool (c.curve),pt sp 0,pt p.k 0,nI fr] 91,X,zF2 c p Kc]).Nodup):Calls Tryz.prog 25 #[pt cg 0,.int .i64 x] w0 (Ret w0 (zL [blk cg [zI c.ring,zI c.window,zI c.base,zI c.gain,zI c.least,zI c.most,zI c.slack,zI c.num,zI c.den,zI c.extra,.bool (c.curve),pt sp 0,pt p.k 0,nI fr] 91,X,zF2 c p Kc]) fun u N=>∃ (v:Value) (p':KP),u = .agg #[.bool (zCV c (⟨σ,Kc,fr⟩ : CS) x).ready,zI (zCV c (⟨σ,Kc,fr⟩ : CS) x).time,v] ∧ N = [row v 43 6 (zCV c (⟨σ,Kc,fr⟩ : CS) x).l.length ((zCV c (⟨σ,Kc,fr⟩ : CS) x).l.flatMap zBt),blk cg [zI c.ring,zI c.window,zI c.base,zI c.gain,zI c.least,zI c.most,zI c.slack,zI c.num,zI c.den,zI c.extra,.bool (c.curve),pt sp 0,pt p.k 0,nI (fr + 1)] 91,X,zF2 c p' (zRw c Kc x)] ∧ p'.k = p.k):=by
 have ho:=hX.oks;have hkk:=hC.k;have hwf:=hC.wf;dsimp only at hkk hwf
 refine zD (F0:=[(0,pt cg 0),(1,zI x)]) func25 rfl rfl rfl (.c (.c .n)) (Mem.start hM rfl hnd) ?_
 refine go 7 [] [14,12,4,0,1] .n (fun g1=>?_)
 refine go 2 [0] [16,12,4,0,1] (.c (.s .z) .n) ⟨rfl,(by omega),?_⟩
 have hv_:(((fr:Nat):Int) + 1:Int) = (((fr + 1:Nat):Int):Int):=by omega
 intro a w hs;rw [hv_] at hs;clear hv_
 revert a w hs
 refine go 8 [0,0] [24,23,4,0] (.c .z .n) ⟨rfl,rfl,?_⟩
 intro a w hs;refine zK hs (.c rfl (.c rfl .n)) call48 (.c (.s (.s (.s .z))) .n) (zYf c p Kc x hk hkk ⟨by omega,by omega⟩ _ (hs.mem.del (.s (.s (.s .z))))) rfl ?_;clear hs w a;rintro _ _ a w ⟨rfl,kp2,rfl⟩ hs
 revert a w hs
 refine goL 7 [] [29,5,4,0] .n ?_
 refine ifG rfl (fun c_3=>?_) (fun c_3=>?_)
 ·
  refine go 2 [0] [4] (.c (.s (.s .z)) .n) ⟨rfl,?_⟩
  have hS:(zCV c (⟨σ,Kc,fr⟩ : CS) x) = ⟨false,0,[]⟩:=if_neg (show ¬ 0 < Kc.l2.length by assumption)
  refine cl (·.addNil 43 6) ?_
  intro a w hs;replace hs:=hs.rerow .z (m':=(zCV c (⟨σ,Kc,fr⟩ : CS) x).l.length) (xs':=((zCV c (⟨σ,Kc,fr⟩ : CS) x).l.flatMap zBt)) (by rw [hS];rfl) (by rw [hS];rfl)
  replace hs:=hs.reorder (.c .z (.c (.s (.s .z)) (.c (.s (.s .z)) (.c (.s .z) (.c .z .n)))))
  exact zLU hs rfl rfl (.s (.s (.s (.s .z)))) (.z (.c (.c (.c .n)))) isAgg33 sizeOf33 (.c (.s (.s (.s (.s .z)))) .n) ⟨.slice none 0 0,(kp2.on p.k),by rw [hS],rfl,rfl⟩
 have htr:=zcN (c:=c) (K:=Kc) hx hkk
 refine go 0 [] [5,4,0] .n ?_
 intro a w hs
 refine zIg (Γ:=Value × List RI) (M0:=[zF2 c (kp2.on p.k) (zRw c Kc x),blk cg [zI c.ring,zI c.window,zI c.base,zI c.gain,zI c.least,zI c.most,zI c.slack,zI c.num,zI c.den,zI c.extra,.bool (c.curve),pt sp 0,pt p.k 0,zI (((fr:Nat):Int) + 1)] 91,blk g1 [.bool (false),zI 0,.slice none 0 0] 33,X]) (Ds:=fun gs=>[Pv 0 (pt cg 0),Pv 1 (pt cg 0),Pv 2 (pt cg 0),Pv 3 (.agg #[zI c.ring,zI c.window,zI c.base,zI c.gain,zI c.least,zI c.most,zI c.slack,zI c.num,zI c.den,zI c.extra,.bool (c.curve)]),Pv 4 (zI (kTm c Kc x)),Pv 5 (pt cg 0),⟨[],[],[],fun vs4=>vs4 6 = ((gs 6).1) ∧ sns ((gs 6).2) = σ.l,fun vs4=>[row ((gs 6).1) 46 3 (((gs 6).2).length) (((gs 6).2).flatMap snV),rws 48 ((gs 6).2)],none⟩,⟨[],[6],[],fun vs4=>vs4 7 = .tuple #[(zFx (vs4 7)),nI ((zCU c σ.l (kTm c Kc x)).2)],fun vs4=>[row (zFx (vs4 7)) 43 6 ((zCU c σ.l (kTm c Kc x)).1.length) ((zCU c σ.l (kTm c Kc x)).1.flatMap zBt)],none⟩,⟨[],[],[7],fun vs4=>vs4 8 = .tuple #[(zFx (vs4 7)),nI ((zCU c σ.l (kTm c Kc x)).2)],fun vs4=>[],none⟩,⟨[],[],[7],fun vs4=>vs4 9 = (zFx (vs4 7)),fun vs4=>[],none⟩,Pv 10 (nI ((zCU c σ.l (kTm c Kc x)).2)),⟨[],[],[7],fun vs4=>vs4 11 = (zFx (vs4 7)),fun vs4=>[],none⟩,Pv 12 (nI ((zCU c σ.l (kTm c Kc x)).2))]) [[],[],[],[],[],[],[6],[],[],[],[],[],[]] ((.slice none 0 0:Value),(default:List RI)) (by kernel_rfl) hs rfl .n (by kernel_rfl) (fun _=>by kernel_rfl) (fun _ _=>rfl) (fun us_ us'_=>(.c (fun _=>rfl) (.c (fun _=>rfl) (.c (fun _=>rfl) (.c (fun _=>rfl) (.c (fun _=>rfl) (.c (fun _=>rfl) (.c (fun h=>by have e6:=h 6 (by simp);simp only [e6]) (.c (fun _=>rfl) (.c (fun _=>rfl) (.c (fun _=>rfl) (.c (fun _=>rfl) (.c (fun _=>rfl) (.c (fun _=>rfl) .n)))))))))))))) (by kernel_rfl) rfl (by kernel_rfl) (fun gs=>?_) ?_
 ·
  refine (.c ?_ (.c ?_ (.c ?_ (.c ?_ (.c ?_ (.c ?_ (.g ?_ (.c ?_ (.c ?_ (.c ?_ (.c ?_ (.c ?_ (.c ?_ .n)))))))))))))
  · exact zAn (m:=13) .n (fun hm0 hm hx=>.n) (by kernel_rfl) (by kernel_rfl) rfl
  · exact zAn (m:=13) (.c (k:=0) (by kernel_rfl) rfl rfl .n) (fun hm0 hm hx=>.n) (by kernel_rfl) (by kernel_rfl) rfl
  · exact zAn (m:=13) (.c (k:=1) (by kernel_rfl) rfl rfl .n) (fun hm0 hm hx=>.n) (by kernel_rfl) (by kernel_rfl) rfl
  · exact zAn (m:=13) (.c (k:=2) (by kernel_rfl) rfl rfl .n) (fun hm0 hm hx=>(.c (hm0.del (.s .z)))) (by kernel_rfl) (by kernel_rfl) rfl
  · exact zAn (m:=13) .n (fun hm0 hm hx=>.n) (by kernel_rfl) (by kernel_rfl) rfl
  · exact zAn (m:=13) .n (fun hm0 hm hx=>.n) (by kernel_rfl) (by kernel_rfl) rfl
  ·
   intro a_ w_ R_ rest_ vs4 hm hs ht hx
   have hm0:=hm.mid
   replace hs:=hs.lrn (ht 5 (zJ 13 _ (by kernel_rfl))) rfl rfl
   have hs0:=hs.bare
   refine zK hs (.c rfl .n) call33 .n (zK9 c cg sp p _ σ _ hX _ (hm0.del (.s .z)) (hm0.del (.s (.s (.s .z))))) rfl ?_;clear hs;rintro u5 _ a w ⟨L6,hL7,rfl⟩ hs
   exact wpList_nil ⟨rfl,(u5,L6),_,_,hs0,(.c .r),hs,⟨rfl,hL7⟩⟩
  ·
   intro a_ w_ R_ rest_ vs4 hm hs ht hx
   replace hs:St _ _ _ (zL [row ((gs 6).1) 46 3 (((gs 6).2).length) (((gs 6).2).flatMap snV),rws 48 ((gs 6).2)]) [row ((gs 6).1) 46 3 (((gs 6).2).length) (((gs 6).2).flatMap snV),rws 48 ((gs 6).2)] _ _:=hs
   have hm0:=hm.mid
   replace hs:=hs.lrn (ht 3 (zJ 13 _ (by kernel_rfl))) rfl rfl
   replace hs:=hs.lrn (ht 4 (zJ 13 _ (by kernel_rfl))) rfl rfl
   have t6:=ht 6 (zJ 13 _ (by kernel_rfl))
   have e6:_ = some (vs4 6):=t6.val rfl
   rw [show vs4 6 = ((gs 6).1) from t6.2.1.1] at e6
   have hL7:sns ((gs 6).2) = σ.l:=t6.2.1.2
   replace hs:=hs.learn e6
   have hs0:=hs.bare
   refine zK hs (.c rfl (.c rfl (.c rfl .n))) call49 (.c .z (.c .z .n)) (zTh c ((gs 6).2) ((gs 6).1) σ.l (kTm c Kc x) htr _ (by assumption) ho hwf _ (hs.mem.allX (.c .z (.c .z .n)))) rfl ?_;clear hs;rintro _ _ a w ⟨v8,rfl,rfl⟩ hs
   exact wpList_nil ⟨rfl,_,_,hs0,(.c (.c (.c .r))),hs,rfl⟩
  ·
   intro a_ w_ R_ rest_ vs4 hm hs ht hx
   have hm0:=hm.mid
   have t7:=ht 7 (zJ 13 _ (by kernel_rfl))
   have e7:_ = some (vs4 7):=t7.val rfl
   rw [show vs4 7 = .tuple #[(zFx (vs4 7)),nI ((zCU c σ.l (kTm c Kc x)).2)] from t7.2.1] at e7
   replace hs:=hs.learn e7
   have hs0:=hs.bare
   refine zGH hs rfl rfl ?_;clear hs;intro a w hs
   exact wpList_nil ⟨rfl,_,_,hs0,(.c .r),hs,rfl⟩
  ·
   intro a_ w_ R_ rest_ vs4 hm hs ht hx
   have hm0:=hm.mid
   have t8:=ht 8 (zJ 13 _ (by kernel_rfl))
   have e8:_ = some (vs4 8):=t8.val rfl
   rw [show vs4 8 = .tuple #[(zFx (vs4 7)),nI ((zCU c σ.l (kTm c Kc x)).2)] from t8.2.1] at e8
   replace hs:=hs.learn e8
   have hs0:=hs.bare
   refine zHV hs rfl .z rfl ?_;clear hs;intro a w hs
   exact wpList_nil ⟨rfl,_,_,hs0,(.c .r),hs,rfl⟩
  ·
   intro a_ w_ R_ rest_ vs4 hm hs ht hx
   have hm0:=hm.mid
   have t8:=ht 8 (zJ 13 _ (by kernel_rfl))
   have e8:_ = some (vs4 8):=t8.val rfl
   rw [show vs4 8 = .tuple #[(zFx (vs4 7)),nI ((zCU c σ.l (kTm c Kc x)).2)] from t8.2.1] at e8
   replace hs:=hs.learn e8
   have hs0:=hs.bare
   refine zHV hs rfl (.s .z) rfl ?_;clear hs;intro a w hs
   exact wpList_nil ⟨rfl,_,_,hs0,(.c .r),hs,rfl⟩
  ·
   intro a_ w_ R_ rest_ vs4 hm hs ht hx
   have hm0:=hm.mid
   have t9:=ht 9 (zJ 13 _ (by kernel_rfl))
   have e9:_ = some (vs4 9):=t9.val rfl
   rw [show vs4 9 = (zFx (vs4 7)) from t9.2.1] at e9
   replace hs:=hs.learn e9
   have hs0:=hs.bare
   refine zEZ hs rfl rfl ?_;clear hs;intro a w hs
   exact wpList_nil ⟨rfl,_,_,hs0,(.c .r),hs,rfl⟩
  exact zAn (m:=13) (.c (k:=10) (by kernel_rfl) rfl rfl .n) (fun hm0 hm hx=>.n) (by kernel_rfl) (by kernel_rfl) rfl
 clear hs w a;intro a w vs4 gs hs hf
 replace hs:St _ _ _ _ [zF2 c (kp2.on p.k) (zRw c Kc x),blk cg [zI c.ring,zI c.window,zI c.base,zI c.gain,zI c.least,zI c.most,zI c.slack,zI c.num,zI c.den,zI c.extra,.bool (c.curve),pt sp 0,pt p.k 0,zI (((fr:Nat):Int) + 1)] 91,blk g1 [.bool (false),zI 0,.slice none 0 0] 33,X,row (zFx (vs4 7)) 43 6 ((zCU c σ.l (kTm c Kc x)).1.length) ((zCU c σ.l (kTm c Kc x)).1.flatMap zBt)] _ _:=hs
 obtain ⟨e6,q6⟩:=hf 6 (by decide)
 replace e6:_ = some (vs4 6):=e6.val rfl
 obtain ⟨q6,hL7⟩:=q6
 rw [show vs4 6 = ((gs 6).1) from q6] at e6
 replace hs:=hs.learn e6;clear e6 q6
 obtain ⟨e11,q11⟩:=hf 11 (by decide)
 replace e11:_ = some (vs4 11):=e11.val rfl
 rw [show vs4 11 = (zFx (vs4 7)) from q11] at e11
 replace hs:=hs.learn e11;clear e11 q11
 generalize ((gs 6).1) = v9 at hs
 generalize ((gs 6).2) = z10 at hs hL7
 generalize zFx (vs4 7) = v11 at hs
 clear hf
 revert a w hs
 refine goE 2 [] [43,42,4] .n ?_
 intro a w hs;refine zGG (it:=Tryz.t33) (zs:=[.bool (false),zI 0,.slice none 0 0]) (places:=[(0,1),(1,1),(2,1)]) hs (.c rfl (.c rfl (.c rfl .n))) underlying33 rfl rfl rfl rfl (.c rfl rfl (.z (.c .n)) (.c rfl rfl (.s (.z (.c .n))) (.c rfl (zO (hs.mem.del (.s (.s (.s (.s .z)))))).isSl.lcells (.s (.s (.z (.c .n)))) .n))) rfl ?_
 intro a w hs;refine zAg hs rfl rfl (.s (.s .z)) (.z (.c (.c (.c .n)))) (zH rfl (zH rfl (zH (zO (hs.mem.del (.s (.s (.s (.s .z)))))).isSl.one zAf))) sizeOf33 rfl ?_
 refine goL 0 [] [4] .n ?_
 have hS:(zCV c (⟨σ,Kc,fr⟩ : CS) x) = ⟨true,kTm c Kc x,(zCU c σ.l (kTm c Kc x)).1⟩:=if_pos (show 0 < Kc.l2.length by assumption)
 refine cl (·.rerow (.s (.s (.s (.s .z)))) (m':=(zCV c (⟨σ,Kc,fr⟩ : CS) x).l.length) (xs':=((zCV c (⟨σ,Kc,fr⟩ : CS) x).l.flatMap zBt)) (by rw [hS]) (by rw [hS])) ?_
 refine cl (·.reorder (.c .z (.c (.s (.s .z)) (.c (.s (.s .z)) (.c (.s .z) (.c .z .n)))))) ?_
 intro a w hs;exact zLU hs rfl rfl (.s (.s (.s (.s .z)))) (.z (.c (.c (.c .n)))) isAgg33 sizeOf33 (.c (.s (.s (.s (.s .z)))) .n) ⟨v11,(kp2.on p.k),by rw [hS],rfl,rfl⟩
def Cli (g:Nat) (c:zAO) (C:CS) (Y:HA):Prop:=∃ (sp:Nat) (p:KP) (X:HA),Sto sp c.keep C.σ X ∧ Y = zF9 [(blk g [zI c.ring,zI c.window,zI c.base,zI c.gain,zI c.least,zI c.most,zI c.slack,zI c.num,zI c.den,zI c.extra,.bool (c.curve),pt sp 0,pt p.k 0,nI C.fr] 91),X,zF2 c p C.K]
theorem zSw (c:zAO) (hk:zCT c = 0) (w0:World):Calls Tryz.prog 46 #[.int .i64 c.ring] w0 (Ret w0 [] fun z N=>∃ p X,z = .tuple #[pt p 0,.int .i64 0] ∧ N = [X] ∧ Sto p c.keep zWa X):=by
 obtain ⟨h1,h2,h3⟩:=zLG hk
 have h:=zaW c.keep w0 ⟨h2,h3⟩
 rw [show nI c.keep = .int .i64 c.ring from congrArg (Value.int .i64) h1] at h
 exact h
theorem zUE (c:zAO) (hk:zCT c ≠ 0) (w0:World):Calls Tryz.prog 22 #[.agg #[zI c.ring,zI c.window,zI c.base,zI c.gain,zI c.least,zI c.most,zI c.slack,zI c.num,zI c.den,zI c.extra,.bool (c.curve)]] w0 (zAe w0 (.tuple #[.pointer none,nI (zCT c)])):=by
 refine zD (F0:=[(0,.agg #[zI c.ring,zI c.window,zI c.base,zI c.gain,zI c.least,zI c.most,zI c.slack,zI c.num,zI c.den,zI c.extra,.bool (c.curve)])]) func22 rfl rfl rfl (.c .n) (Mem.nil _) ?_
 refine go 4 [0,0] [8,1] .n (fun g1=>⟨rfl,?_⟩)
 intro a w hs;refine zB (v:=.tuple #[.pointer none,nI (zCT c)]) hs (.c rfl .n) call45 (zV4 c hk _) rfl ?_
 refine goL 7 [] [13,5,4,1] .n ?_
 refine ifG rfl (fun c_2=>?_) (fun c_2=>?_)
 ·
  refine go 3 [] [3,2] .n ?_
  refine cl (·.drop (.c .z .n)) ?_
  intro a w hs;exact zBK hs rfl rfl rfl ⟨rfl,rfl⟩
 exfalso;omega
theorem zRv (c:zAO) (hk:zCT c = 0) (w0:World):Calls Tryz.prog 22 #[.agg #[zI c.ring,zI c.window,zI c.base,zI c.gain,zI c.least,zI c.most,zI c.slack,zI c.num,zI c.den,zI c.extra,.bool (c.curve)]] w0 (Ret w0 [] fun u N=>∃ (g:Nat) (Y:HA),u = .tuple #[pt g 0,.int .i64 0] ∧ N = [Y] ∧ Cli g c (C0 c) Y):=by
 refine zD (F0:=[(0,.agg #[zI c.ring,zI c.window,zI c.base,zI c.gain,zI c.least,zI c.most,zI c.slack,zI c.num,zI c.den,zI c.extra,.bool (c.curve)])]) func22 rfl rfl rfl (.c .n) (Mem.nil _) ?_
 refine go 4 [0,0] [8,1] .n (fun g1=>⟨rfl,?_⟩)
 intro a w hs;refine zK hs (.c rfl .n) call45 .n (zZR c hk _) rfl ?_;clear hs w a;rintro _ _ a w ⟨kp2,rfl,rfl⟩ hs
 revert a w hs
 refine goL 10 [0] [17,4,1] (.c (.s .z) .n) ⟨rfl,?_⟩
 intro a w hs;refine zK hs (.c rfl .n) call46 .n (zSw c hk _) rfl ?_;clear hs w a;rintro _ _ a w ⟨g3,X4,rfl,rfl,hX5⟩ hs
 revert a w hs
 refine goL 15 [0,0] [3,2] (.c (.s .z) .n) ⟨rfl,fun g6=>?_⟩
 refine cl (·.drop (.c (.s .z) .n)) ?_
 intro a w hs;replace hs:=hs.memTo hs.mem.sep
 exact zBK hs rfl rfl rfl ⟨g6,_,rfl,rfl,g3,kp2,X4,hX5,rfl⟩
theorem zO0 (c:zAO) (cg sp:Nat) (p:KP) (fr:Nat) (σ:Stt) (Kc:KS) (X:HA) (hX:Sto sp c.keep σ X)  (w0:World) (hcg:(blk cg [zI c.ring,zI c.window,zI c.base,zI c.gain,zI c.least,zI c.most,zI c.slack,zI c.num,zI c.den,zI c.extra,.bool (c.curve),pt sp 0,pt p.k 0,nI fr] 91).p w0) (hXp:X.p w0) (hKp:(zF2 c p Kc).p w0):Calls Tryz.prog 17 #[pt cg 0] w0 (zAe w0 (nI (σ.n 0))):=by
 refine zD (F0:=[(0,pt cg 0)]) func17 rfl rfl rfl (.c .n) (Mem.nil _) ?_
 refine go 7 [] [7] .n ?_
 intro a w hs;refine zU hs rfl (hs.mem.keep hcg (by simp [zL,blk])) (.s (.s (.s (.s (.s (.s (.s (.s (.s (.s (.s .z))))))))))) isAgg88 rfl ?_
 intro a w hs;refine zB (v:=nI (σ.n 0)) hs (.c rfl .n) call37 (zVW hX _ (hs.mem.keepH hXp (by simp))) rfl ?_
 refine goL 1 [] [2] .n ?_
 intro a w hs;exact fin hs rfl rfl ⟨rfl,rfl⟩
theorem zL2 (c:zAO) (cg sp:Nat) (p:KP) (fr:Nat) (σ:Stt) (Kc:KS) (X:HA) (hX:Sto sp c.keep σ X) (e:Int) (he : -9223372036854775808 ≤ e ∧ e ≤ 9223372036854775807) (w0:World) (hcg:(blk cg [zI c.ring,zI c.window,zI c.base,zI c.gain,zI c.least,zI c.most,zI c.slack,zI c.num,zI c.den,zI c.extra,.bool (c.curve),pt sp 0,pt p.k 0,nI fr] 91).p w0) (hXp:X.p w0) (hKp:(zF2 c p Kc).p w0):Calls Tryz.prog 16 #[pt cg 0,.int .i64 e] w0 (zAe w0 (nI (zFY σ.n e))):=by
 refine zD (F0:=[(0,pt cg 0),(1,zI e)]) func16 rfl rfl rfl (.c (.c .n)) (Mem.nil _) ?_
 refine go 7 [] [9,1] .n ?_
 intro a w hs;refine zU hs rfl (hs.mem.keep hcg (by simp [zL,blk])) (.s (.s (.s (.s (.s (.s (.s (.s (.s (.s (.s .z))))))))))) isAgg88 rfl ?_
 refine goL 1 [] [11,10] .n ?_
 intro a w hs;refine zB (v:=nI (zFY σ.n e)) hs (.c rfl (.c rfl .n)) call36 (zPw hX e _ (hs.mem.keepH hXp (by simp)) (by omega)) rfl ?_
 refine goL 1 [] [4] .n ?_
 intro a w hs;exact fin hs rfl rfl ⟨rfl,rfl⟩
theorem zP6 (c:zAO) (cg sp:Nat) (p:KP) (fr:Nat) (σ:Stt) (Kc:KS) (X:HA) (hX:Sto sp c.keep σ X) (w0:World) (hcg:(blk cg [zI c.ring,zI c.window,zI c.base,zI c.gain,zI c.least,zI c.most,zI c.slack,zI c.num,zI c.den,zI c.extra,.bool (c.curve),pt sp 0,pt p.k 0,nI fr] 91).p w0) (hXp:X.p w0) (hKp:(zF2 c p Kc).p w0):Calls Tryz.prog 14 #[pt cg 0] w0 (Ret w0 [] fun z N=>N = [row z 2 1 σ.l.length (iV (σ.l.map zAC.t))]):=by
 have ho:=hX.oks;have ho1:=ho.le;have ho2:=ho.m64
 refine zD (F0:=[(0,pt cg 0)]) func14 rfl rfl rfl (.c .n) (Mem.nil _) ?_
 refine go 6 [] [8,3] .n ?_
 intro a w hs;refine zK hs (.c rfl .n) call33 .n (zK9 c cg sp p _ σ _ hX _ (hs.mem.keep hcg (by simp [zL,blk])) (hs.mem.keepH hXp (by simp))) rfl ?_;clear hs w a;rintro u1 _ a w ⟨L2,hL3,rfl⟩ hs
 refine zAE hs rfl (zO (hs.mem.del .z)).isSl underlying37 rfl ?_
 refine goL 1 [] [11,10,9,3] .n ?_
 intro a w hs;have hivL:=zEA (hs.mem.del (.s .z))
 have hlL:L2.length = σ.l.length:=by rw [← zAL,(by assumption:sns L2 = σ.l)]
 replace hs:=hs.addNil 2 1
 replace hs:=hs.rerow .z (m':=0) (xs':=(iV ((L2.take 0).map RI.t))) (rfl) (rfl)
 refine zCJ (fun mm_ a w=>∃ j:Nat,∃ z:Value,mm_ = L2.length - j ∧ St 22 [(3,z),(9,u1),(10,nI L2.length),(11,zI (j:Int))] w0 [] [row z 2 1 j (iV ((L2.take j).map RI.t)),row u1 46 3 L2.length (L2.flatMap snV),rws 48 L2] a w ∧ j ≤ L2.length) ⟨0,.slice none 0 0,rfl,hs.sub (.c rfl (.c rfl (.c rfl (.c rfl .n)))),by omega⟩ ?_
 clear hs w a;rintro mm_ a w ⟨j,z,rfl,hs,hI1_0⟩
 revert a w hs
 refine go 1 [] [12,3,9,10,11] .n ?_
 refine ifG rfl (fun c_4=>?_) (fun c_4=>?_)
 ·
  refine go 0 [] [3,9,10,11] .n ?_
  intro a w hs;refine zBh (j:=j) hs rfl rfl (zO (hs.mem.del (.s .z))) rfl (by omega) underlying37 sizeOf46 rfl ?_
  intro a w hs;refine zBC (cs:=snV (L2.getD j default)) hs rfl (zO (hs.mem.del (.s .z))) (zAi zB6 L2 j (by omega)) (by rw [zAa zB6];omega) (by omega) isAgg46 sizeOf46 rfl ?_
  refine goL 6 [50,0] [18,15,9,10,11] .n (fun g5=>⟨rfl,(zH rfl (zH rfl (zH (hivL _ (zFl (by omega))).one zAf))),rfl,fun g6=>?_⟩)
  intro a w hs;refine zBD (size:=1) (bytes:=8) hs rfl rfl (.s (.s .z)) (zAF (m:=1) (size:=1) (hs.mem.del .z) rfl (by decide)) (by simp [Value.oneCell']) underlying56 (i:=Tryz.t2) rfl rfl rfl rfl rfl (by decide) (by omega) (by simp only [maxLen];omega) rfl ?_;intro v7
  refine cl (·.drop (.c (.s .z) .n)) ?_
  refine goL 3 [] [11,3,9,10] .n ⟨(by omega),?_⟩
  refine cl (·.rerow .z (m':=(j + 1)) (xs':=(iV ((L2.take (j + 1)).map RI.t))) (rfl) (zVC (by omega))) ?_
  refine cl (·.drop (.c (.s .z) .n)) ?_
  intro a w hs;refine ⟨_,?_,(j + 1),v7,rfl,hs.sub (.c rfl (.c rfl (.c rfl (.c rfl .n)))),by omega⟩
  omega
 refine go 2 [] [2] .n ?_
 refine cl (·.drop (.c (.s (.s .z)) (.c (.s .z) .n))) ?_
 refine cl (·.rerow .z (m':=σ.l.length) (xs':=(iV (σ.l.map zAC.t))) (by omega) (by rw [← zVT (by assumption:sns L2 = σ.l),List.take_of_length_le (by omega)])) ?_
 intro a w hs;exact fin hs rfl rfl rfl
theorem zKN {g:Nat} {c:zAO} {C:CS} {Y:HA} (hY:Cli g c C Y) (hk:zCT c = 0) (hC:C.ok c) (hn:∀ i,C.σ.n i ≤ 1000000) (hfr:C.fr ≤ 1000000) (x:Int) (hx:R64 x) {v:Value} {m:Nat} {bs:List zP} (w0:World) (hp:Y.p w0) (hb:Rd w0 (zL [Y]) v 1 m (zC bs)):Calls Tryz.prog 18 #[pt g 0,.int .i64 x,v] w0 (Ret w0 (zL [Y]) fun u N=>u = nI (zEN c C (zA bs)) ∧ ∃ Y',N = [Y'] ∧ Cli g c (zIw c C x (zA bs)) Y'):=by
 obtain ⟨sp,p,X,hX,rfl⟩:=hY;obtain ⟨σ,Kc,fr⟩:=C;obtain ⟨hall,hnd⟩:=hp
 rw [zBu] at hb ⊢
 refine (zV0 c g sp p fr σ Kc X x v m bs hk hC hX hn hfr hx w0 hall hnd hb).mono ?_
 rintro e w ⟨u,N,rfl,⟨rfl,X',p',rfl,h1,h2⟩,hM⟩
 exact ⟨_,_,rfl,⟨rfl,_,rfl,sp,p',X',h2,by rw [h1];rfl⟩,hM.sep⟩
theorem zKM {g:Nat} {c:zAO} {C:CS} {Y:HA} (hY:Cli g c C Y) (hk:zCT c = 0) (hC:C.ok c) (hn:∀ i,C.σ.n i ≤ 1000000) (hfr:C.fr ≤ 1000000) (x:Int) (hx:R64 x) (w0:World) (hp:Y.p w0):Calls Tryz.prog 25 #[pt g 0,.int .i64 x] w0 (Ret w0 (zL [Y]) fun u N=>∃ v,u = .agg #[.bool (zCV c C x).ready,zI (zCV c C x).time,v] ∧ ∃ Y',N = [row v 43 6 (zCV c C x).l.length ((zCV c C x).l.flatMap zBt),Y'] ∧ Cli g c (zWk c C x) Y'):=by
 obtain ⟨sp,p,X,hX,rfl⟩:=hY;obtain ⟨σ,Kc,fr⟩:=C;obtain ⟨hall,hnd⟩:=hp
 rw [zBu]
 refine (zUw c g sp p fr σ Kc X x hk hC hX hn hfr hx w0 hall hnd).mono ?_
 rintro e w ⟨u,N,rfl,⟨v,p',rfl,rfl,h1⟩,hM⟩
 exact ⟨_,_,rfl,⟨v,rfl,_,rfl,sp,p',X,hX,by rw [h1];rfl⟩,Mem.resep (A:=[row v 43 6 _ _]) hM⟩
theorem zL9 {g:Nat} {c:zAO} {C:CS} {Y:HA} (hY:Cli g c C Y)  (w0:World) (hp:Y.p w0):Calls Tryz.prog 17 #[pt g 0] w0 (zAe w0 (nI (C.σ.n 0))):=by
 obtain ⟨sp,p,X,hX,rfl⟩:=hY;obtain ⟨σ,Kc,fr⟩:=C;obtain ⟨hall,hnd⟩:=hp
 exact zO0 c g sp p fr σ Kc X hX w0 (hall _ (by simp)) (hall _ (by simp)) (hall _ (by simp))
theorem zH2 {g:Nat} {c:zAO} {C:CS} {Y:HA} (hY:Cli g c C Y) (e:Int) (he:R64 e) (w0:World) (hp:Y.p w0):Calls Tryz.prog 16 #[pt g 0,.int .i64 e] w0 (zAe w0 (nI (zFY C.σ.n e))):=by
 obtain ⟨sp,p,X,hX,rfl⟩:=hY;obtain ⟨σ,Kc,fr⟩:=C;obtain ⟨hall,hnd⟩:=hp
 exact zL2 c g sp p fr σ Kc X hX e he w0 (hall _ (by simp)) (hall _ (by simp)) (hall _ (by simp))
theorem zUV {g:Nat} {c:zAO} {C:CS} {Y:HA} (hY:Cli g c C Y) (w0:World) (hp:Y.p w0):Calls Tryz.prog 14 #[pt g 0] w0 (Ret w0 [] fun z N=>N = [row z 2 1 C.σ.l.length (iV (C.σ.l.map zAC.t))]):=by
 obtain ⟨sp,p,X,hX,rfl⟩:=hY;obtain ⟨σ,Kc,fr⟩:=C;obtain ⟨hall,hnd⟩:=hp
 exact zP6 c g sp p fr σ Kc X hX w0 (hall _ (by simp)) (hall _ (by simp)) (hall _ (by simp))
end Go.Proofs.YtajjkegcfmhghaaGreat
/- Walks of what an event does: what each function does, over the program of this seat. Printed by a program of this session. -/
namespace Go.Proofs.YtajjkegcfmhghaaGreat
open Tryz
open Go Go.Sx Go.RowKit
set_option linter.unusedVariables false
set_option linter.unusedSimpArgs false
set_option maxRecDepth 4000
set_option maxHeartbeats 1000000

theorem Cli.nd {g:Nat} {c:zAO} {C:CS} {Y:HA} {w:World} (h:Cli g c C Y) (hp:Y.p w):(zL [Y]).Nodup:=by obtain ⟨_,_,_,_,rfl⟩:=h;rw [zBu];exact hp.2
theorem zPF {g:Nat} {c:zAO} {C:CS} {Y:HA} (hY:Cli g c C Y) (hk:zCT c = 0) (hC:C.ok c) (hn:∀ i,C.σ.n i ≤ 1000000) (hfr:C.fr ≤ 1000000) (xe:EvR) (hx:R64 xe.at_) (w0:World) (hp:Y.p w0) (hb:Rd w0 (zL [Y]) xe.v 1 xe.bs.length (zC xe.bs)):Calls Tryz.prog 26 #[pt g 0,.agg #[zI xe.k,zI xe.at_,xe.v]] w0 (Ret w0 (zL [Y]) fun u N=>∃ v,u = .tuple #[.agg #[.bool (⟨false,0,[]⟩ : ShR).ready,zI (⟨false,0,[]⟩ : ShR).time,v],nI (zEN c C (zA xe.bs))] ∧ ∃ Y',N = [row v 43 6 (⟨false,0,[]⟩ : ShR).l.length ((⟨false,0,[]⟩ : ShR).l.flatMap zBt),Y'] ∧ Cli g c (zIw c C xe.at_ (zA xe.bs)) Y'):=by
 refine zD (F0:=[(0,pt g 0),(1,.agg #[zI xe.k,zI xe.at_,xe.v])]) func26 rfl rfl rfl (.c (.c .n)) (zAl hp (by simpa [zL] using Cli.nd hY hp)) ?_
 refine go 9 [0,1,1] [11,9,7,6,4] .n (fun g1=>fun g2=>⟨rfl,rfl,?_⟩)
 intro a w hs;refine zK hs (.c rfl (.c rfl (.c rfl .n))) call18 (.c (.s (.s .z)) .n) (zKN hY hk hC hn hfr xe.at_ ⟨by omega,by omega⟩ _ (hs.mem.del (.s (.s .z))) (hs.mem.rd1 hb (.c (.s (.s .z)) .n))) rfl ?_;clear hs w a;rintro _ _ a w ⟨rfl,Y3,rfl,hY4⟩ hs
 revert a w hs
 refine goL 2 [0] [5,4] (.c (.s .z) .n) ⟨rfl,?_⟩
 refine cl (·.addNil 43 6) ?_
 refine cl (·.drop (.c (.s (.s (.s .z))) .n)) ?_
 refine cl (·.reorder (.c .z (.c (.s .z) (.c .z .n)))) ?_
 intro a w hs;exact zBJ hs rfl rfl rfl (.s (.s .z)) (.z (.c (.c (.c .n)))) isAgg33 sizeOf33 (.c (.s (.s .z)) .n) ⟨_,rfl,_,rfl,hY4⟩
theorem zSI {g:Nat} {c:zAO} {C:CS} {Y:HA} (hY:Cli g c C Y) (hk:zCT c = 0) (hC:C.ok c) (hn:∀ i,C.σ.n i ≤ 1000000) (hfr:C.fr ≤ 1000000) (xe:EvR) (hx:R64 xe.at_) (w0:World) (hp:Y.p w0) (hb:Rd w0 (zL [Y]) xe.v 1 xe.bs.length (zC xe.bs)):Calls Tryz.prog 27 #[pt g 0,.agg #[zI xe.k,zI xe.at_,xe.v]] w0 (Ret w0 (zL [Y]) fun u N=>∃ v,u = .tuple #[.agg #[.bool (zCV c C xe.at_).ready,zI (zCV c C xe.at_).time,v],nI 0] ∧ ∃ Y',N = [row v 43 6 (zCV c C xe.at_).l.length ((zCV c C xe.at_).l.flatMap zBt),Y'] ∧ Cli g c (zWk c C xe.at_) Y'):=by
 refine zD (F0:=[(0,pt g 0),(1,.agg #[zI xe.k,zI xe.at_,xe.v])]) func27 rfl rfl rfl (.c (.c .n)) (zAl hp (by simpa [zL] using Cli.nd hY hp)) ?_
 refine go 6 [0,1] [8,6,4] .n (fun g1=>fun g2=>⟨rfl,?_⟩)
 intro a w hs;refine zK hs (.c rfl (.c rfl .n)) call25 (.c (.s (.s .z)) .n) (zKM hY hk hC hn hfr xe.at_ ⟨by omega,by omega⟩ _ (hs.mem.del (.s (.s .z)))) rfl ?_;clear hs w a;rintro _ _ a w ⟨v5,rfl,Y3,rfl,hY4⟩ hs
 refine zAg hs rfl rfl (.s (.s .z)) (.z (.c (.c (.c .n)))) (zH rfl (zH rfl (zH (zO (hs.mem.del .z)).isSl.one zAf))) sizeOf33 rfl ?_
 refine goL 1 [] [5,4] .n ?_
 refine cl (·.drop (.c (.s (.s (.s .z))) .n)) ?_
 refine cl (·.reorder (.c (.s .z) (.c (.s .z) (.c .z .n)))) ?_
 intro a w hs;exact zBJ hs rfl rfl rfl (.s (.s .z)) (.z (.c (.c (.c .n)))) isAgg33 sizeOf33 (.c (.s (.s .z)) .n) ⟨_,rfl,_,rfl,hY4⟩
theorem zcY {g:Nat} {c:zAO} {C:CS} {Y:HA} (hY:Cli g c C Y) (hk:zCT c = 0) (hC:C.ok c) (hn:∀ i,C.σ.n i ≤ 1000000) (hfr:C.fr ≤ 1000000) (xe:EvR) (hx:R64 xe.at_) (w0:World) (hp:Y.p w0) (hb:Rd w0 (zL [Y]) xe.v 1 xe.bs.length (zC xe.bs)):Calls Tryz.prog 8 #[pt g 0,.agg #[zI 0,zI xe.at_,xe.v]] w0 (Ret w0 (zL [Y]) fun u N=>∃ v,u = .tuple #[.agg #[.bool (⟨false,0,[]⟩ : ShR).ready,zI (⟨false,0,[]⟩ : ShR).time,v],nI (zEN c C (zA xe.bs))] ∧ ∃ Y',N = [row v 43 6 (⟨false,0,[]⟩ : ShR).l.length ((⟨false,0,[]⟩ : ShR).l.flatMap zBt),Y'] ∧ Cli g c (zIw c C xe.at_ (zA xe.bs)) Y'):=by
 refine zD (F0:=[(0,pt g 0),(1,.agg #[zI 0,zI xe.at_,xe.v])]) func8 rfl rfl rfl (.c (.c .n)) (zAl hp (by simpa [zL] using Cli.nd hY hp)) ?_
 refine go 6 [0] [4,3,0] .n (fun g1=>fun g2=>?_)
 intro a w hs;refine zHi hs rfl ?_;intro g3
 refine goL 2 [] [14,12,4,3,0] .n ?_
 intro a w hs;refine zJf (u:=.func (.func 26) #[pt g 0] #[]) (kv':=[(0,.func (.func 26) #[pt g 0] #[])]) hs rfl rfl rfl .z underlying79 underlying3 rfl ?_
 refine goL 2 [] [16,12,4,3] .n ?_
 intro a w hs;refine zJf (u:=.func (.func 27) #[pt g 0] #[]) (kv':=[(0,.func (.func 26) #[pt g 0] #[]),(1,.func (.func 27) #[pt g 0] #[])]) hs rfl rfl rfl .z underlying79 underlying3 rfl ?_
 refine goL 3 [0] [19,17,4,3] (.c (.s (.s .z)) .n) ⟨rfl,?_⟩
 intro a w hs;refine zKk (v:=.func (.func 26) #[pt g 0] #[]) (b:=true) hs rfl rfl (.s .z) underlying79 underlying3 zeroValue36 rfl rfl rfl ?_
 refine goL 10 [0] [27,26,4] (.c .z .n) ⟨rfl,?_⟩
 intro a w hs;refine zFP (fs:=[pt g 0]) (us:=[]) hs rfl (.c rfl .n) rfl call26 (.c (.s (.s (.s .z))) .n) (zPF hY hk hC hn hfr (⟨0,xe.at_,xe.v,xe.bs⟩ : EvR) hx _ (hs.mem.del (.s (.s (.s .z)))) (hs.mem.rd1 hb (.c (.s (.s (.s .z))) .n))) rfl ?_;clear hs w a;rintro _ _ a w ⟨v6,rfl,Y4,rfl,hY5⟩ hs
 revert a w hs
 refine goL 2 [] [30,29,4] .n ?_
 intro a w hs;refine zAg hs rfl rfl (.s (.s (.s (.s .z)))) (.z (.c (.c (.c .n)))) (zH rfl (zH rfl (zH (zO (hs.mem.del .z)).isSl.one zAf))) sizeOf33 rfl ?_
 refine goL 1 [] [5,4] .n ?_
 refine cl (·.drop (.c (.s (.s (.s (.s .z)))) (.c (.s (.s (.s .z))) .n))) ?_
 refine cl (·.reorder (.c (.s .z) (.c (.s .z) (.c .z .n)))) ?_
 intro a w hs;exact zBJ hs rfl rfl rfl (.s (.s .z)) (.z (.c (.c (.c .n)))) isAgg33 sizeOf33 (.c (.s (.s .z)) .n) ⟨_,rfl,_,rfl,hY5⟩
theorem zcK {g:Nat} {c:zAO} {C:CS} {Y:HA} (hY:Cli g c C Y) (hk:zCT c = 0) (hC:C.ok c) (hn:∀ i,C.σ.n i ≤ 1000000) (hfr:C.fr ≤ 1000000) (xe:EvR) (hx:R64 xe.at_) (w0:World) (hp:Y.p w0) (hb:Rd w0 (zL [Y]) xe.v 1 xe.bs.length (zC xe.bs)):Calls Tryz.prog 8 #[pt g 0,.agg #[zI 1,zI xe.at_,xe.v]] w0 (Ret w0 (zL [Y]) fun u N=>∃ v,u = .tuple #[.agg #[.bool (zCV c C xe.at_).ready,zI (zCV c C xe.at_).time,v],nI 0] ∧ ∃ Y',N = [row v 43 6 (zCV c C xe.at_).l.length ((zCV c C xe.at_).l.flatMap zBt),Y'] ∧ Cli g c (zWk c C xe.at_) Y'):=by
 refine zD (F0:=[(0,pt g 0),(1,.agg #[zI 1,zI xe.at_,xe.v])]) func8 rfl rfl rfl (.c (.c .n)) (zAl hp (by simpa [zL] using Cli.nd hY hp)) ?_
 refine go 6 [0] [4,3,0] .n (fun g1=>fun g2=>?_)
 intro a w hs;refine zHi hs rfl ?_;intro g3
 refine goL 2 [] [14,12,4,3,0] .n ?_
 intro a w hs;refine zJf (u:=.func (.func 26) #[pt g 0] #[]) (kv':=[(0,.func (.func 26) #[pt g 0] #[])]) hs rfl rfl rfl .z underlying79 underlying3 rfl ?_
 refine goL 2 [] [16,12,4,3] .n ?_
 intro a w hs;refine zJf (u:=.func (.func 27) #[pt g 0] #[]) (kv':=[(0,.func (.func 26) #[pt g 0] #[]),(1,.func (.func 27) #[pt g 0] #[])]) hs rfl rfl rfl .z underlying79 underlying3 rfl ?_
 refine goL 3 [0] [19,17,4,3] (.c (.s (.s .z)) .n) ⟨rfl,?_⟩
 intro a w hs;refine zKk (v:=.func (.func 27) #[pt g 0] #[]) (b:=true) hs rfl rfl (.s .z) underlying79 underlying3 zeroValue36 rfl rfl rfl ?_
 refine goL 10 [0] [27,26,4] (.c .z .n) ⟨rfl,?_⟩
 intro a w hs;refine zFP (fs:=[pt g 0]) (us:=[]) hs rfl (.c rfl .n) rfl call27 (.c (.s (.s (.s .z))) .n) (zSI hY hk hC hn hfr (⟨1,xe.at_,xe.v,xe.bs⟩ : EvR) hx _ (hs.mem.del (.s (.s (.s .z)))) (hs.mem.rd1 hb (.c (.s (.s (.s .z))) .n))) rfl ?_;clear hs w a;rintro _ _ a w ⟨v6,rfl,Y4,rfl,hY5⟩ hs
 revert a w hs
 refine goL 2 [] [30,29,4] .n ?_
 intro a w hs;refine zAg hs rfl rfl (.s (.s (.s (.s .z)))) (.z (.c (.c (.c .n)))) (zH rfl (zH rfl (zH (zO (hs.mem.del .z)).isSl.one zAf))) sizeOf33 rfl ?_
 refine goL 1 [] [5,4] .n ?_
 refine cl (·.drop (.c (.s (.s (.s (.s .z)))) (.c (.s (.s (.s .z))) .n))) ?_
 refine cl (·.reorder (.c (.s .z) (.c (.s .z) (.c .z .n)))) ?_
 intro a w hs;exact zBJ hs rfl rfl rfl (.s (.s .z)) (.z (.c (.c (.c .n)))) isAgg33 sizeOf33 (.c (.s (.s .z)) .n) ⟨_,rfl,_,rfl,hY5⟩
theorem zci {g:Nat} {c:zAO} {C:CS} {Y:HA} (hY:Cli g c C Y) (hk:zCT c = 0) (hC:C.ok c) (hn:∀ i,C.σ.n i ≤ 1000000) (hfr:C.fr ≤ 1000000) (xe:EvR) (hx:R64 xe.at_) (w0:World) (hp:Y.p w0) (hb:Rd w0 (zL [Y]) xe.v 1 xe.bs.length (zC xe.bs)) (h0:xe.k ≠ 0) (h1:xe.k ≠ 1):Calls Tryz.prog 8 #[pt g 0,.agg #[zI xe.k,zI xe.at_,xe.v]] w0 (Ret w0 (zL [Y]) fun u N=>∃ v,u = .tuple #[.agg #[.bool (⟨false,0,[]⟩ : ShR).ready,zI (⟨false,0,[]⟩ : ShR).time,v],nI 11] ∧ ∃ Y',N = [row v 43 6 (⟨false,0,[]⟩ : ShR).l.length ((⟨false,0,[]⟩ : ShR).l.flatMap zBt),Y'] ∧ Cli g c C Y'):=by
 refine zD (F0:=[(0,pt g 0),(1,.agg #[zI xe.k,zI xe.at_,xe.v])]) func8 rfl rfl rfl (.c (.c .n)) (zAl hp (by simpa [zL] using Cli.nd hY hp)) ?_
 refine go 6 [0] [4,3,0] .n (fun g1=>fun g2=>?_)
 intro a w hs;refine zHi hs rfl ?_;intro g3
 refine goL 2 [] [14,12,4,3,0] .n ?_
 intro a w hs;refine zJf (u:=.func (.func 26) #[pt g 0] #[]) (kv':=[(0,.func (.func 26) #[pt g 0] #[])]) hs rfl rfl rfl .z underlying79 underlying3 rfl ?_
 refine goL 2 [] [16,12,4,3] .n ?_
 intro a w hs;refine zJf (u:=.func (.func 27) #[pt g 0] #[]) (kv':=[(0,.func (.func 26) #[pt g 0] #[]),(1,.func (.func 27) #[pt g 0] #[])]) hs rfl rfl rfl .z underlying79 underlying3 rfl ?_
 refine goL 3 [0] [19,17,4,3] (.c (.s (.s .z)) .n) ⟨rfl,?_⟩
 intro a w hs;refine zKk (v:=.nilFunc) (b:=false) hs rfl rfl (.s .z) underlying79 underlying3 zeroValue36 (by rw [zOe h0 h1];rfl) (by rw [zOe h0 h1];rfl) rfl ?_
 refine goL 11 [0] [5,4] (.c (.s (.s .z)) .n) ⟨rfl,?_⟩
 refine cl (·.addNil 43 6) ?_
 refine cl (·.drop (.c (.s (.s (.s .z))) (.c (.s (.s .z)) .n))) ?_
 refine cl (·.reorder (.c .z (.c (.s .z) (.c .z .n)))) ?_
 intro a w hs;exact zBJ hs rfl rfl rfl (.s (.s .z)) (.z (.c (.c (.c .n)))) isAgg33 sizeOf33 (.c (.s (.s .z)) .n) ⟨_,rfl,_,rfl,hY⟩
theorem za5 {g:Nat} {c:zAO} {C:CS} {Y:HA} (hY:Cli g c C Y) (hk:zCT c = 0) (hC:C.ok c) (hn:∀ i,C.σ.n i ≤ 1000000) (hfr:C.fr ≤ 1000000) (xe:EvR) (hx:R64 xe.at_) (w0:World) (hp:Y.p w0) (hb:Rd w0 (zL [Y]) xe.v 1 xe.bs.length (zC xe.bs)) (hxk:R64 xe.k):Calls Tryz.prog 8 #[pt g 0,.agg #[zI xe.k,zI xe.at_,xe.v]] w0 (Ret w0 (zL [Y]) fun u N=>∃ v,u = .tuple #[.agg #[.bool (zYK c C xe).ready,zI (zYK c C xe).time,v],nI (zb5 c C xe)] ∧ ∃ Y',N = [row v 43 6 (zYK c C xe).l.length ((zYK c C xe).l.flatMap zBt),Y'] ∧ Cli g c (cDo c C xe) Y'):=by
 by_cases h0:xe.k = 0
 · have h:=zcY hY hk hC hn hfr xe hx w0 hp hb
   rw [show zYK c C xe = ⟨false,0,[]⟩ from if_neg (by omega),show zb5 c C xe = zEN c C (zA xe.bs) from if_pos h0,show cDo c C xe = zIw c C xe.at_ (zA xe.bs) from if_pos h0,h0]
   exact h
 · by_cases h1:xe.k = 1
   · have h:=zcK hY hk hC hn hfr xe hx w0 hp hb
     rw [show zYK c C xe = zCV c C xe.at_ from if_pos h1,show zb5 c C xe = 0 from (if_neg h0).trans (if_pos h1),show cDo c C xe = zWk c C xe.at_ from (if_neg h0).trans (if_pos h1),h1]
     exact h
   · have h:=zci hY hk hC hn hfr xe hx w0 hp hb h0 h1
     rw [show zYK c C xe = ⟨false,0,[]⟩ from if_neg h1,show zb5 c C xe = 11 from (if_neg h0).trans (if_neg h1),show cDo c C xe = C from (if_neg h0).trans (if_neg h1)]
     exact h
end Go.Proofs.YtajjkegcfmhghaaGreat
