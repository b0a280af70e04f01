import Derived.Test.YtljpfgacpofkpaaGreatQG7
import Derived.Test.YtljpfgacpofkpaaGreatQG9
import Derived.Test.YtljpfgacpofkpaaGreatQG10
import Derived.Test.YtljpfgacpofkpaaGreatQSxBasB
set_option linter.unusedVariables false
set_option linter.unusedSimpArgs false
namespace Go.Proofs.YtljpfgacpofkpaaGreat
open Tryz
open Go Go.Sx Go.RowKit
set_option maxRecDepth 4000
set_option maxHeartbeats 1000000
theorem zXn (v:Value) (m:Nat) (hvs:zDj v m) (w0:World):Calls Tryz.prog 149 #[v] w0 (Ret w0 [] λu N=>∃ b,u = .func (.func 205) #[] #[pt b 0]∧N=[blk b [v] 37]):=by
 refine zG (F0:=[(0,v)]) func149 rfl rfl rfl (.c .n) (Mem.nil _) ?_
 refine go 4 [1] [2] .n ⟨hvs.one,λg1=>?_⟩
 intro a w hs;exact fin hs rfl rfl ⟨_,rfl,rfl⟩
def zJj (L:Nat) (l:List RI) (I:Nat→HA→Prop) (J:HA→Prop):Prop:=∀ (k:Nat) (X:HA) (W:World),I (k+1) X→k<l.length→X.p W→X.foot.Nodup→YieldAt Fence.wide 0 Tryz.prog L #[zI (k:Int),.agg (snV (l.getD k default)).toArray] W λe W'=>∃ b,e = .returned (.bool b)∧∃ N,(∃ X',N=[X']∧((b=true∧I k X')∨(b=false∧J X')))∧Mem W (zN [X]) N W'
theorem zJj.at {L:Nat} {l:List RI} {I:Nat→HA→Prop} {J:HA→Prop} {k:Nat} {X:HA} (h:zJj L l I J) (hI:I (k+1) X) (hk:k<l.length):∀ W:World,(∀ h∈[X],h.p W)→(zN [X]).Nodup→YieldAt Fence.wide (1-1) Tryz.prog L ([zI (k:Int),.agg (snV (l.getD k default)).toArray]:List Value).toArray W λe W'=>∃ b,e = .returned (.bool b)∧∃ N,(∃ X',N=[X']∧((b=true∧I k X')∨(b=false∧J X')))∧Mem W (zN [X]) N W':=λW ha hn=>h k X W hI hk (ha X (by simp)) (by simpa [zN] using hn)
theorem zV0 (L bx:Nat) (l:List RI) (hiv:∀ x∈l,zDj x.v x.l.length) (v:Value) (I:Nat→HA→Prop) (J:HA→Prop) (X:HA) (w0:World) (hbx:(blk bx [v] 37).p w0) (hbf:bx ∉ zN [X]) (hb:Rd w0 (zN [X]) v 3 l.length (l.flatMap snV)) (hX:X.p w0) (hnd:(zN [X]).Nodup) (hI:I l.length X) (hy:zJj L l I J):Calls Tryz.prog 205 #[.func (.yield L) #[] #[],pt bx 0] w0 (Ret w0 (zN [X]) λu N=>∃ X',N=[X']∧(I 0 X'∨J X')):=by
 have hle:=hb.le
 simp only [maxLen] at hle
 refine enter (F0:=[(0,.func (.yield L) #[] #[]),(1,pt bx 0)]) func205 rfl rfl rfl (.c (.c .n)) (zAq hX (by simpa [zN] using hnd)) λa w hs=>?_
 refine wp_seq_k λK1 hK2=>?_
 refine wp_region_lit ?_
 refine zAC hs rfl (hs.mem.keep hbx hbf) .z isAgg37 rfl ?_;clear hs w a;intro a w hs
 refine zAG hs rfl (hs.rd0 hb).isSl underlying37 rfl ?_;clear hs w a;intro a w hs
 refine zH6 hs rfl rfl (by omega) rfl ?_;clear hs w a;intro a w hs
 refine zEd hs rfl rfl ?_;clear hs w a;intro a w hs
 refine wpList_nil ?_
 refine zAy (hK2 _ _ ?_)
 refine wp_block ?_
 refine zJw (λmm_ a w=>∃ k:Nat,∃ Y:HA,mm_=1+k∧St 19 [(0,.func (.yield L) #[] #[]),(1,pt bx 0),(3,zI ((k:Int)-1))] w0 (zN [X]) [Y] a w∧k≤l.length∧I k Y) ⟨l.length,X,rfl,hs.sub (.c rfl (.c rfl (.c rfl .n))),by omega,hI⟩ ?_
 clear hs w a;rintro mm_ a w ⟨k,Y,rfl,hs,hI1_0,hI1_1⟩
 refine wp_seq_k λK3 hK4=>?_
 refine wp_seq_k λK5 hK6=>?_
 refine wp_region_lit ?_
 refine zGN hs rfl rfl ?_;clear hs w a;intro a w hs
 refine zNS hs rfl rfl rfl ?_;clear hs w a;intro a w hs
 refine wpList_nil ?_
 refine zAy (hK6 _ _ ?_)
 refine zYq hs rfl (λc_7=>?_) (λc_7=>?_)
 ·
  replace c_7:=of_decide_eq_true c_7
  have hkj:∃ j,k=j+1:=⟨k-1,by omega⟩;obtain ⟨j,hj⟩:=hkj;subst hj
  have hv_:(((j+1:Nat):Int)-1:Int)=(j:Int):=by omega
  rw [hv_] at hs;clear hv_
  refine wp_skip ?_
  refine zAy (hK4 _ _ ?_)
  refine wp_seq_k λK8 hK9=>?_
  refine wp_block ?_
  refine wp_seq_k λK10 hK11=>?_
  refine (wpIn_wide (n:=1)).1 (wpIn_region_lit (zGu (l1:=[_,_,_,_,_,_]) (r:=none) (λ_ _ h=>by obtain ⟨_,_,h,_⟩:=h;cases h) _ _ (zA3 rfl) ?_))
  refine zGN hs rfl rfl ?_;clear hs w a;intro a w hs
  refine zGN hs rfl rfl ?_;clear hs w a;intro a w hs
  refine zAC hs rfl (hs.mem.keep hbx hbf) .z isAgg37 rfl ?_;clear hs w a;intro a w hs
  refine zGN hs rfl rfl ?_;clear hs w a;intro a w hs
  refine zBF (j:=j) hs rfl rfl (hs.rd0 hb) rfl (by omega) underlying37 sizeOf46 rfl ?_;clear hs w a;intro a w hs
  refine zAx (cs:=snV (l.getD j default)) hs rfl (hs.rd0 hb) (zAZ zAm l j (by omega)) (by rw [zAN zAm];omega) (by omega) isAgg46 sizeOf46 rfl ?_;clear hs w a;intro a w hs
  refine wpList_nil ?_
  show wpListIn _ _ _ _ _ _ _ _
  refine zQd (X:=[Y]) hs rfl (.c rfl (.c rfl .n)) (.c .z .n) (hy.at hI1_1 (by omega)) rfl ?_
  clear hs w a;rintro bb _ a w ⟨Y2,rfl,hR2⟩ hs;simp only [List.cons_append,List.nil_append] at hs
  refine zSG (λ_ _ h=>by obtain ⟨_,_,h,_⟩:=h;cases h) (zA3 rfl) ?_
  refine zWM hs rfl rfl ?_;clear hs w a;intro a w hs
  refine wpList_nil ?_
  refine zAy (hK11 _ _ ?_)
  refine zYq hs rfl (λc_12=>?_) (λc_12=>?_)
  ·
   replace c_12:=zFW c_12
   refine wp_ret ?_
   refine zco ?_
   refine zct ?_
   refine zct ?_
   refine zco ?_
   exact zUy hs rfl ⟨_,rfl,.inr (hR2.elim (λh=>absurd (h.1.symm.trans (by assumption:bb=false)) (by decide)) λh=>h.2)⟩
  replace c_12:=zFX c_12
  refine wp_skip ?_
  refine zbq ?_
  refine zAy (hK9 _ _ ?_)
  refine wp_region_lit ?_
  refine zGN hs rfl rfl ?_;clear hs w a;intro a w hs
  refine zH6 hs rfl rfl (by omega) rfl ?_;clear hs w a;intro a w hs
  refine zEd hs rfl rfl ?_;clear hs w a;intro a w hs
  refine wpList_nil ?_
  refine zAy ?_
  refine ⟨_,?_,j,Y2,rfl,hs.sub (.c rfl (.c rfl (.c rfl .n))),by omega,(hR2.elim (λh=>h.2) λh=>absurd (h.1.symm.trans (by assumption:bb=true)) (by decide))⟩
  omega
 replace c_7:=of_decide_eq_false c_7
 have hk0:k=0:=by omega
 subst hk0
 have hI0:=hI1_1
 refine wp_exit ?_
 refine zb1 ?_
 refine zb1 ?_
 refine zP6 ?_
 exact zIo hs rfl ⟨_,rfl,.inl hI0⟩
theorem zR4 (L:List RI) (hiv:∀ x∈L,zDj x.v x.l.length) (v:Value) (t:Int) (w0:World) (hb:Rd w0 [] v 3 L.length (L.flatMap snV)) (hz:zDc none (tms L)≠0):Calls Tryz.prog 101 #[.int .i64 t,v] w0 (zAh w0 (.tuple #[zI 0,zI 0,nI (zDc none (tms L))])):=by
 have hle:=hb.le
 simp only [maxLen] at hle
 refine zG (F0:=[(0,zI t),(1,v)]) func101 rfl rfl rfl (.c (.c .n)) (Mem.nil _) ?_
 refine go 5 [0] [11,6,5,4,2,1] .n (λg1=>λg2=>λg3=>λg4=>?_)
 intro a w hs;refine zB (v:=nI (zDc none (tms L))) hs (.c rfl .n) call148 (zGQ L hiv v _ (hs.rd0 hb)) rfl ?_
 refine goL 3 [] [14,7,6,5,4,2,1] .n ?_
 refine ifG rfl (λc_5=>?_) (λc_5=>?_)
 ·
  refine go 4 [0,1,2] [6,5,4] (.c (.s (.s .z)) (.c (.s .z) (.c .z .n))) ⟨rfl,rfl,rfl,?_⟩
  intro a w hs;exact zb4 hs rfl rfl rfl rfl .z (.s .z) (.s (.s .z)) isAgg3 isAgg3 isAgg34 (.c (.s (.s (.s .z))) (.c (.s (.s .z)) (.c (.s .z) (.c .z .n)))) ⟨rfl,rfl⟩
 exfalso;omega
theorem zO9 (L:List RI) (hiv:∀ x∈L,zDj x.v x.l.length) (v:Value) (t:Int) (w0:World) (hb:Rd w0 [] v 3 L.length (L.flatMap snV)) (hz:zDc none (tms L)=0):Calls Tryz.prog 101 #[.int .i64 t,v] w0 (zAh w0 (.tuple #[zI ((zA7 L t).1),zI ((zA7 L t).2.1),nI ((zA7 L t).2.2)])):=by
 have hle:=hb.le
 simp only [maxLen] at hle
 refine zWW (F0:=[(0,zI t),(1,v)]) func101 rfl rfl rfl (.c (.c .n)) (Mem.nil _) λa w hs=>?_
 refine wpIn_seq_k λK1 hK2=>?_
 refine zBn (λ_ _ h=>by obtain ⟨_,_,h,_⟩:=h;cases h) (zA3 rfl) ?_
 refine zJG (cs:=[zI t]) hs rfl rfl rfl ?_;clear hs w a;intro g3 a w hs
 refine zBm (cs:=[zI 0]) hs zeroValue3 rfl rfl ?_;clear hs w a;intro g4 a w hs
 refine zBm (cs:=[zI 0]) hs zeroValue3 rfl rfl ?_;clear hs w a;intro g5 a w hs
 refine zBm (cs:=[zI 0]) hs zeroValue34 rfl rfl ?_;clear hs w a;intro g6 a w hs
 refine wpList_nil ?_
 refine zAy (hK2 _ _ ?_)
 refine wpIn_seq_k λK7 hK8=>?_
 refine wpIn_seq_k λK9 hK10=>?_
 refine zBn (λ_ _ h=>by obtain ⟨_,_,h,_⟩:=h;cases h) (zA3 rfl) ?_
 refine zGN hs rfl rfl ?_;clear hs w a;intro a w hs
 refine zB (v:=nI (zDc none (tms L))) hs (.c rfl .n) call148 (zGQ L hiv v _ (hs.rd0 hb)) rfl ?_;clear hs w a;intro a w hs
 refine zEd hs rfl rfl ?_;clear hs w a;intro a w hs
 refine wpList_nil ?_
 refine zAy (hK10 _ _ ?_)
 refine wpIn_seq_k λK11 hK12=>?_
 refine zBn (λ_ _ h=>by obtain ⟨_,_,h,_⟩:=h;cases h) (zA3 rfl) ?_
 refine zGN hs rfl rfl ?_;clear hs w a;intro a w hs
 refine zWb hs rfl rfl rfl ?_;clear hs w a;intro a w hs
 refine wpList_nil ?_
 refine zAy (hK12 _ _ ?_)
 refine zRZ hs rfl (λhc_=>?_) (λhc_=>?_)
 ·
  replace hc_:=zFW hc_
  replace hc_:=zAW hc_
  exfalso;omega
 replace hc_:=zFX hc_
 replace hc_:=eq_of_beq hc_
 refine wpIn_skip ?_
 refine zAy (hK8 _ _ ?_)
 refine wpIn_seq_k λK13 hK14=>?_
 refine zBn (λ_ _ h=>by obtain ⟨_,_,h,_⟩:=h;cases h) (zA3 rfl) ?_
 refine zBm (cs:=[zI 0]) hs zeroValue3 rfl rfl ?_;clear hs w a;intro g15 a w hs
 refine zBh hs rfl rfl .z .z rfl sizeOf3 ?_;clear hs w a;intro a w hs
 refine wpList_nil ?_
 refine zAy (hK14 _ _ ?_)
 refine wpIn_seq_k λK16 hK17=>?_
 refine wpIn_seq_k λK18 hK19=>?_
 refine zBn (λ_ _ h=>by obtain ⟨_,_,h,_⟩:=h;cases h) (zA3 rfl) ?_
 refine zGN hs rfl rfl ?_;clear hs w a;intro a w hs
 refine zL hs (.c rfl .n) call149 .n (zXn v _ (hs.rd0 hb).isSl _) rfl ?_;clear hs w a;rintro _ _ a w ⟨bx20,rfl,rfl⟩ hs
 refine wpList_nil ?_
 refine zAy (hK19 _ _ ?_)
 refine wpIn_block ?_
 replace hs:=hs.reorder (.c .z (.c (.s (.s (.s (.s .z)))) (.c (.s (.s (.s .z))) (.c (.s (.s .z)) (.c (.s .z) (.c .z .n))))))
 refine zKJ hs rfl call205 (λfn D Lo W rec hrec hm=>?_)
 have hm2:=hm.reorder (X:=[blk bx20 [v] 37,blk g3 [zI t] 2,blk g4 [zI 0] 3,blk g5 [zI 0] 3,blk g6 [zI 0] 34,blk g15 [zI (-1)] 3,obj Lo (.loop (rec .ready)),obj D (.deferred (some []))]) (.c (.s (.s .z)) (.c (.s (.s .z)) (.c (.s (.s .z)) (.c (.s (.s .z)) (.c (.s (.s .z)) (.c (.s (.s .z)) (.c .z (.c .z .n))))))))
 obtain ⟨hp1,hp2,hp3⟩:=Mem.parts (A:=[blk bx20 [v] 37]) hm2
 have hy:zJj Lo L (λ(k:Nat) (X:HA)=>X=zFy [blk g3 [zI t] 2,blk g4 [zI 0] 3,blk g5 [zI 0] 3,blk g6 [zI 0] 34,blk g15 [zI (if k=L.length then -1 else ((k:Nat):Int))] 3,obj Lo (.loop (rec .ready)),obj D (.deferred (some []))]∧zIn L t L.length=zIn L t k) (λ(X:HA)=>∃ (i:Nat) (nx:Int),X=zFy [blk g3 [zI t] 2,blk g4 [zI (i:Int)] 3,blk g5 [zI nx] 3,blk g6 [zI 0] 34,blk g15 [zI nx] 3,obj Lo (.loop (zTT rec)),obj D (.deferred (some []))]∧zIn L t L.length=some (i,nx)):=by
  rintro k X W1 ⟨rfl,hpk⟩ hk hX hn
  have hX2:=(zWt hX).reorder (X:=[obj Lo (.loop (rec .ready)),blk g3 [zI t] 2,blk g4 [zI 0] 3,blk g5 [zI 0] 3,blk g6 [zI 0] 34,blk g15 [zI (if (k+1)=L.length then -1 else (((k+1):Nat):Int))] 3,obj D (.deferred (some []))]) (.c (.s (.s (.s (.s (.s .z))))) (.c .z (.c .z (.c .z (.c .z (.c .z (.c .z .n)))))))
  refine zJZ (zSC (post:=λN=>N=[blk g3 [zI t] 2,blk g4 [zI 0] 3,blk g5 [zI 0] 3,blk g6 [zI 0] 34,blk g15 [zI (k:Int)] 3,obj D (.deferred (some []))]∧¬ (L.getD k default).tm≤t) (postJ:=λN=>N=[blk g3 [zI t] 2,blk g4 [zI (k:Int)] 3,blk g5 [zI (if (k+1)=L.length then -1 else (((k+1):Nat):Int))] 3,blk g6 [zI 0] 34,blk g15 [zI (if (k+1)=L.length then -1 else (((k+1):Nat):Int))] 3,obj D (.deferred (some []))]∧(L.getD k default).tm≤t) hs hrec rfl rfl rfl hX2 (λa w hs=>?_)) ?_
  ·
   refine wpIn_seq_k λK6 hK6=>?_
   refine zBn (λ_ _ h=>h) (zA3 rfl) ?_
   refine zEd hs rfl rfl ?_;clear hs w a;intro a w hs
   refine wpList_nil ?_
   refine zAy (hK6 _ _ ?_)
   refine zBn (λ_ _ h=>h) (zA3 rfl) ?_
   refine zBm (cs:=[zI 0,zI 0,.slice none 0 0]) hs zeroValue46 rfl rfl ?_;clear hs w a;intro g21 a w hs
   refine zAU hs rfl rfl .z (.z (.c (.c (.c .n)))) (zF rfl (zF rfl (zF (hiv _ (zD1 (by omega))).one zAX))) sizeOf46 rfl ?_;clear hs w a;intro a w hs
   refine wpList_nil ?_
   replace hs:=hs.reorder (.c (.s .z) (.c .z (.c .z (.c .z (.c .z (.c .z (.c .z (.c .z .n))))))))
   refine ⟨_,_,hs,?_⟩;clear hs;intro w3 hs
   refine wpIn_block ?_
   refine wpIn_seq_k λK1 hK1=>?_
   refine wpIn_seq_k λK2 hK2=>?_
   refine zBn (λ_ _ h=>(by rcases h with ⟨h,_⟩ | ⟨h,_⟩<;>cases h)) (zA3 rfl) ?_
   refine zcF hs rfl underlying46 rfl sizeOf2 (by decide) (o:=1) rfl rfl ?_;clear hs w a;intro a w hs
   refine zKp hs rfl (.s .z) (.s .z) isAgg2 rfl ?_;clear hs w a;intro a w hs
   refine zKp hs rfl (.s (.s .z)) .z isAgg2 rfl ?_;clear hs w a;intro a w hs
   refine zJY hs rfl rfl rfl ?_;clear hs w a;intro a w hs
   refine wpList_nil ?_
   refine zAy (hK2 _ _ ?_)
   refine zRZ hs rfl (λhc_=>?_) (λhc_=>?_)
   ·
    replace hc_:=of_decide_eq_true hc_
    refine wpIn_seq_k λK3 hK3=>?_
    refine zRf (λ_ _ h=>(by rcases h with ⟨h,_⟩ | ⟨h,_⟩<;>cases h)) (zA3 rfl) [.v [] (zI (k:Int)),.v [] (zI (if (k+1)=L.length then -1 else (((k+1):Nat):Int))),.s [0] [0] [0] [],.s [1] [0] [1] [],.s [] [0] [2] []] [] hs (.c (.s (.s (.s .z))) (.c (.s (.s (.s .z))) (.c (.s (.s (.s .z))) .n))) .n (by kernel_rfl) ⟨λ_ _ _ _ hm hs K=>zGN hs rfl rfl (vk K),λ_ _ _ _ hm hs K=>zAC hs rfl (hm.del (.s (.s (.s .z)))) .z isAgg3 rfl (vk K),rfl,rfl,rfl,⟨rfl,by kernel_rfl,λ_=>rfl,rfl,rfl,trivial⟩,λ_=>rfl,?_⟩
    intro a w hs;refine zAy (hK3 _ _ ?_)
    refine wpIn_ret ?_
    replace hs:=hs.drop (.c (.s .z) .n)
    replace hs:=hs.reorder (.c .z (.c .z (.c (.s (.s .z)) (.c (.s (.s .z)) (.c (.s (.s .z)) (.c .z (.c .z .n)))))))
    exact Or.inr ⟨rfl,_,⟨rfl,hc_⟩,hs.mem⟩
   replace hc_:=of_decide_eq_false hc_
   refine wpIn_skip ?_
   refine zAy (hK1 _ _ ?_)
   refine zBn (λ_ _ h=>(by rcases h with ⟨h,_⟩ | ⟨h,_⟩<;>cases h)) (zA3 rfl) ?_
   refine zGN hs rfl rfl ?_;clear hs w a;intro a w hs
   refine zBh hs rfl rfl (.s (.s (.s (.s (.s (.s .z)))))) .z rfl sizeOf3 ?_;clear hs w a;intro a w hs
   refine wpList_nil ?_
   replace hs:=hs.drop (.c (.s (.s .z)) .n)
   replace hs:=hs.reorder (.c (.s .z) (.c (.s .z) (.c (.s .z) (.c (.s .z) (.c (.s .z) (.c .z (.c .z .n)))))))
   refine zbq ?_
   exact Or.inl ⟨rfl,_,⟨rfl,hc_⟩,hs.mem⟩
  rintro e W' (⟨rfl,N,⟨rfl,hc⟩,hM⟩ | ⟨rfl,N,⟨rfl,hc⟩,hM⟩)
  · refine ⟨true,rfl,_,⟨_,rfl,.inl ⟨rfl,rfl,?_⟩⟩,?_⟩
    · rw [hpk];exact zXD hc
    · rw [if_neg (by omega:¬ k=L.length)];exact (hM.reorder (.c (.s .z) (.c (.s .z) (.c (.s .z) (.c (.s .z) (.c (.s .z) (.c .z (.c .z .n)))))))).sep
  · exact ⟨false,rfl,_,⟨_,rfl,.inr ⟨rfl,k,_,rfl,by rw [hpk];exact zTu hc⟩⟩,(hM.reorder (.c (.s .z) (.c (.s .z) (.c (.s .z) (.c (.s .z) (.c (.s .z) (.c .z (.c .z .n)))))))).sep⟩
 have hrd:Rd W (zN [zFy [blk g3 [zI t] 2,blk g4 [zI 0] 3,blk g5 [zI 0] 3,blk g6 [zI 0] 34,blk g15 [zI (-1)] 3,obj Lo (.loop (rec .ready)),obj D (.deferred (some []))]]) v 3 L.length (L.flatMap snV):=hm2.rd hb (λk hk=>by rw [zBw] at hk;exact List.mem_append_right _ hk)
 have hbf:bx20 ∉ zN [zFy [blk g3 [zI t] 2,blk g4 [zI 0] 3,blk g5 [zI 0] 3,blk g6 [zI 0] 34,blk g15 [zI (-1)] 3,obj Lo (.loop (rec .ready)),obj D (.deferred (some []))]]:=λh=>(List.nodup_append.1 (by simpa only [zAs] using hp3)).2.2 bx20 (by simp [zN,blk]) bx20 h rfl
 have hnd2:(zN [zFy [blk g3 [zI t] 2,blk g4 [zI 0] 3,blk g5 [zI 0] 3,blk g6 [zI 0] 34,blk g15 [zI (-1)] 3,obj Lo (.loop (rec .ready)),obj D (.deferred (some []))]]).Nodup:=(List.nodup_append.1 (by simpa only [zAs] using hp3)).2.1
 refine (zV0 Lo bx20 L hiv v (λ(k:Nat) (X:HA)=>X=zFy [blk g3 [zI t] 2,blk g4 [zI 0] 3,blk g5 [zI 0] 3,blk g6 [zI 0] 34,blk g15 [zI (if k=L.length then -1 else ((k:Nat):Int))] 3,obj Lo (.loop (rec .ready)),obj D (.deferred (some []))]∧zIn L t L.length=zIn L t k) (λ(X:HA)=>∃ (i:Nat) (nx:Int),X=zFy [blk g3 [zI t] 2,blk g4 [zI (i:Int)] 3,blk g5 [zI nx] 3,blk g6 [zI 0] 34,blk g15 [zI nx] 3,obj Lo (.loop (zTT rec)),obj D (.deferred (some []))]∧zIn L t L.length=some (i,nx)) _ W (hp1 _ (by simp)) hbf hrd hp2 hnd2 ⟨by rw [if_pos rfl],rfl⟩ hy).mono ?_
 rintro e W' ⟨u,N,rfl,⟨X',rfl,hIJ⟩,hM⟩
 rw [zBw] at hM
 rcases hIJ with ⟨rfl,hpk⟩ | ⟨i,nx,rfl,hpk⟩
 ·
  have hM3:=hm2.frame (.c (.s .z) (.c (.s .z) (.c (.s .z) (.c (.s .z) (.c (.s .z) (.c (.s .z) (.c (.s .z) .n))))))) (Mem.unsep (A:=[]) hM)
  refine ⟨⟨_,rfl⟩,.inl ⟨[blk g3 [zI t] 2,blk g4 [zI 0] 3,blk g5 [zI 0] 3,blk g6 [zI 0] 34,blk g15 [zI (if 0=L.length then -1 else ((0:Nat):Int))] 3,blk bx20 [v] 37],hM3.reorder (.c (.s (.s (.s (.s (.s .z))))) (.c (.s (.s (.s (.s (.s .z))))) (.c .z (.c .z (.c .z (.c .z (.c .z (.c .z .n)))))))),λW2 hM4=>?_⟩⟩
  rw [zOG _ hs.dfr]
  refine zbq ?_
  refine zAy (hK17 _ _ ?_)
  refine wpIn_seq_k λK9 hK9=>?_
  have hac:({ tmps:=a.tmps,defers:=[{ target:=.collected D,args:=#[] }] }:Act)=wDf [{ target:=.collected D,args:=#[] }] a:=by unfold wDf;rw [hs.dfr];rfl
  rw [hac]
  refine zBn (λ_ _ h=>by obtain ⟨_,_,h,_⟩:=h;cases h) (zA3 rfl) (zOc (λ_ _ h=>by obtain ⟨_,_,h,_⟩:=h;cases h) _ _ _ ?_)
  refine (?_:∀ a w,St 27 [(17,.func (.func 205) #[] #[pt bx20 0]),(16,v),(8,pt g15 0),(14,.bool (!((((zDc none (tms L):Nat):Int):Int)==0))),(13,nI (zDc none (tms L))),(7,nI (zDc none (tms L))),(12,nI (zDc none (tms L))),(11,v),(6,pt g6 0),(5,pt g5 0),(4,pt g4 0),(2,pt g3 0),(0,zI t),(1,v)] w0 [] [obj Lo (.loop (rec .exhausted)),obj D (.deferred (some [])),blk g3 [zI t] 2,blk g4 [zI 0] 3,blk g5 [zI 0] 3,blk g6 [zI 0] 34,blk g15 [zI (if 0=L.length then -1 else ((0:Nat):Int))] 3,blk bx20 [v] 37] a w→wpList _ _ _ _ a w) a W2 (hs.memTo hM4)
  intro a w hs
  refine zBh hs rfl rfl (.s (.s (.s .z))) .z rfl sizeOf3 ?_;clear hs w a;intro a w hs
  refine zBh hs rfl rfl (.s (.s (.s (.s .z)))) .z rfl sizeOf3 ?_;clear hs w a;intro a w hs
  refine zBh hs rfl rfl (.s (.s (.s (.s (.s .z))))) .z rfl sizeOf34 ?_;clear hs w a;intro a w hs
  refine wpList_nil ?_
  refine zAy (hK9 _ _ ?_)
  refine wpIn_ret ?_
  have hM4:=hs.mem
  show bodyPostM _ _ _ _ _ .ret { tmps:=a.tmps,defers:=a.defers++[{ target:=.collected D,args:=#[] }] } _
  rw [hs.dfr]
  have hM5:=hM4.frame (X:=[obj D (.deferred (some []))]) (.c (.s (.s (.s (.s .z)))) .n) (zDa (o':=.deferred none) (hM4.del (.s (.s (.s (.s .z))))))
  refine zWS (v:=.tuple #[zI 0,zI 0,zI 5]) (zKS rfl (hs.agr 4 _ rfl) (hs.agr 5 _ rfl) (hs.agr 6 _ rfl) (hM5.del (.s (.s (.s .z)))) (hM5.del (.s (.s .z))) (hM5.del (.s .z)) isAgg3 isAgg3 isAgg34) (hM4.del (.s (.s (.s (.s .z))))) ?_
  exact ⟨_,[],rfl,⟨by rw [zZe (by omega) hpk];rfl,rfl⟩,hM5.drop (.c .z (.c .z (.c .z (.c .z (.c .z (.c .z (.c .z (.c .z .n))))))))⟩
 ·
  have hM3:=hm2.frame (.c (.s .z) (.c (.s .z) (.c (.s .z) (.c (.s .z) (.c (.s .z) (.c (.s .z) (.c (.s .z) .n))))))) (Mem.unsep (A:=[]) hM)
  refine ⟨⟨_,rfl⟩,.inr ⟨[blk g3 [zI t] 2,blk g4 [zI (i:Int)] 3,blk g5 [zI nx] 3,blk g6 [zI 0] 34,blk g15 [zI nx] 3,blk bx20 [v] 37],hM3.reorder (.c (.s (.s (.s (.s (.s .z))))) (.c (.s (.s (.s (.s (.s .z))))) (.c .z (.c .z (.c .z (.c .z (.c .z (.c .z .n)))))))),λW2 hM4=>?_⟩⟩
  rw [zOG _ hs.dfr]
  show bodyPostM _ _ _ _ _ .ret { tmps:=a.tmps,defers:=[{ target:=.collected D,args:=#[] }] } _
  have hM5:=hM4.frame (X:=[obj D (.deferred (some []))]) (.c (.s .z) .n) (zDa (o':=.deferred none) (hM4.del (.s .z)))
  refine zWS (v:=.tuple #[zI (i:Int),zI nx,zI 0]) (zKS rfl (hs.agr 4 _ rfl) (hs.agr 5 _ rfl) (hs.agr 6 _ rfl) (hM5.del (.s (.s (.s .z)))) (hM5.del (.s (.s (.s (.s .z))))) (hM5.del (.s (.s (.s (.s (.s .z)))))) isAgg3 isAgg3 isAgg34) (hM4.del (.s .z)) ?_
  exact ⟨_,[],rfl,⟨by rw [zYd (by omega) hpk];rfl,rfl⟩,hM5.drop (.c .z (.c .z (.c .z (.c .z (.c .z (.c .z (.c .z (.c .z .n))))))))⟩
theorem zV1 (L:List RI) (hiv:∀ x∈L,zDj x.v x.l.length) (v:Value) (t:Int) (w0:World) (hb:Rd w0 [] v 3 L.length (L.flatMap snV)):Calls Tryz.prog 101 #[.int .i64 t,v] w0 (zAh w0 (.tuple #[zI ((zA7 L t).1),zI ((zA7 L t).2.1),nI ((zA7 L t).2.2)])):=by
 by_cases hz:zDc none (tms L)=0
 · exact zO9 L hiv v t w0 hb hz
 · rw [zXk (by omega)];exact zR4 L hiv v t w0 hb hz
theorem za3 (A B:BitVec 16) (w0:World):Calls Tryz.prog 66 #[.int .u16 (((A).toNat:Nat):Int),.int .u16 (((B).toNat:Nat):Int)] w0 (zAh w0 (zI (aTo A B))):=by
 refine zG (F0:=[(0,.int .u16 (((A).toNat:Nat):Int)),(1,.int .u16 (((B).toNat:Nat):Int))]) func66 rfl rfl rfl (.c (.c .n)) (Mem.nil _) ?_
 refine go 3 [] [6,5] .n ?_
 intro a w hs;refine zJQ (X:=B) (Y:=A) hs rfl rfl rfl rfl rfl ?_
 intro a w hs;refine zJl (X:=B-A) hs rfl rfl underlying133 underlying188 rfl ?_
 intro a w hs;refine zB4 hs rfl (zZY (B-A)) underlying188 underlying3 rfl ?_
 refine goL 1 [] [4] .n ?_
 intro a w hs;exact fin hs rfl rfl ⟨rfl,rfl⟩
theorem zJ3 (A B:BitVec 16) (w0:World):Calls Tryz.prog 36 #[.int .u16 (((A).toNat:Nat):Int),.int .u16 (((B).toNat:Nat):Int)] w0 (zAh w0 (zI (aTo A B))):=by
 refine zG (F0:=[(0,.int .u16 (((A).toNat:Nat):Int)),(1,.int .u16 (((B).toNat:Nat):Int))]) func36 rfl rfl rfl (.c (.c .n)) (Mem.nil _) ?_
 refine go 3 [] [6,5] .n ?_
 intro a w hs;refine zB (v:=zI (aTo A B)) hs (.c rfl (.c rfl .n)) call66 (za3 A B _) rfl ?_
 refine goL 1 [] [4] .n ?_
 intro a w hs;exact fin hs rfl rfl ⟨rfl,rfl⟩
theorem zbr (A:BitVec 16) (x:Int) (w0:World):Calls Tryz.prog 261 #[.int .u16 (((A).toNat:Nat):Int),zI x] w0 (zAh w0 (.int .u16 (((aBy A x).toNat:Nat):Int))):=by
 refine zG (F0:=[(0,.int .u16 (((A).toNat:Nat):Int)),(1,zI x)]) func261 rfl rfl rfl (.c (.c .n)) (Mem.nil _) ?_
 refine go 3 [] [6,5] .n ?_
 intro a w hs;refine zQe hs rfl underlying3 underlying133 rfl ?_
 intro a w hs;refine zI7 (X:=A) (Y:=BitVec.ofInt 16 x) hs rfl rfl rfl rfl rfl ?_
 refine goL 1 [] [4] .n ?_
 intro a w hs;exact fin hs rfl rfl ⟨rfl,rfl⟩
theorem zUO (A:BitVec 16) (x:Int) (w0:World):Calls Tryz.prog 209 #[.int .u16 (((A).toNat:Nat):Int),zI x] w0 (zAh w0 (.int .u16 (((aBy A x).toNat:Nat):Int))):=by
 refine zG (F0:=[(0,.int .u16 (((A).toNat:Nat):Int)),(1,zI x)]) func209 rfl rfl rfl (.c (.c .n)) (Mem.nil _) ?_
 refine go 3 [] [6,5] .n ?_
 intro a w hs;refine zB (v:=.int .u16 (((aBy A x).toNat:Nat):Int)) hs (.c rfl (.c rfl .n)) call261 (zbr A x _) rfl ?_
 refine goL 1 [] [4] .n ?_
 intro a w hs;exact fin hs rfl rfl ⟨rfl,rfl⟩
theorem zV2 (A B:BitVec 16) (n d:Int) (w0:World):Calls Tryz.prog 155 #[.int .u16 (((A).toNat:Nat):Int),.int .u16 (((B).toNat:Nat):Int),zI n,zI d] w0 (zAh w0 (.tuple #[.int .u16 (((bif zBP n d==0 then zQf A B n d else 0#16).toNat:Nat):Int),nI (zBP n d)])):=by
 have hr:=zS2 A B
 refine zG (F0:=[(0,.int .u16 (((A).toNat:Nat):Int)),(1,.int .u16 (((B).toNat:Nat):Int)),(2,zI n),(3,zI d)]) func155 rfl rfl rfl (.c (.c (.c (.c .n)))) (Mem.nil _) ?_
 refine go 4 [] [14,13,0,2,3] .n ?_
 intro a w hs;refine zB (v:=zI (aTo A B)) hs (.c rfl (.c rfl .n)) call36 (zJ3 A B _) rfl ?_
 refine goL 2 [] [17,16,15,0] .n ?_
 intro a w hs;refine zB (v:=.tuple #[zI (bif zBP n d==0 then zCY 0 (aTo A B) n d else 0),nI (zBP n d)]) hs (.c rfl (.c rfl (.c rfl (.c rfl .n)))) call208 (zN1 0 (aTo A B) n d (by omega) (by omega) _) rfl ?_
 refine goL 7 [] [22,11,10,0] .n ?_
 refine ifG rfl (λc_1=>?_) (λc_1=>?_)
 ·
  have hbad:=zIH (by assumption)
  refine go 3 [] [9,8] .n ?_
  intro a w hs;exact zBO hs rfl rfl rfl ⟨zXC hbad _,rfl⟩
 have hc0:=zCt (by assumption)
 refine go 2 [] [25,24] .n ?_
 intro a w hs;refine zB (v:=.int .u16 (((aBy A (bif zBP n d==0 then zCY 0 (aTo A B) n d else 0)).toNat:Nat):Int)) hs (.c rfl (.c rfl .n)) call209 (zUO A (bif zBP n d==0 then zCY 0 (aTo A B) n d else 0) _) rfl ?_
 refine goL 2 [] [9,8] .n ?_
 intro a w hs;exact zBO hs rfl rfl rfl ⟨zU2 hc0 (by rw [hc0];rfl),rfl⟩
theorem zTB (X A B:BitVec 16) (w0:World):Calls Tryz.prog 12 #[.int .u16 (((X).toNat:Nat):Int),.int .u16 (((A).toNat:Nat):Int),.int .u16 (((B).toNat:Nat):Int)] w0 (zAh w0 (.bool (zPo X A B))):=by
 refine zG (F0:=[(0,.int .u16 (((X).toNat:Nat):Int)),(1,.int .u16 (((A).toNat:Nat):Int)),(2,.int .u16 (((B).toNat:Nat):Int))]) func12 rfl rfl rfl (.c (.c (.c .n))) (Mem.nil _) ?_
 refine go 3 [] [10,9,0,1] .n ?_
 intro a w hs;refine zB (v:=zI (aTo A B)) hs (.c rfl (.c rfl .n)) call36 (zJ3 A B _) rfl ?_
 refine goL 2 [] [13,12,11] .n ?_
 intro a w hs;refine zB (v:=zI (aTo A X)) hs (.c rfl (.c rfl .n)) call36 (zJ3 A X _) rfl ?_
 refine goL 7 [] [19,8,7] .n ?_
 intro a w hs;refine zX (b:=decide ((min 0 (aTo A B))≤(aTo A X))) (λc_1=>?_) (λc_1=>?_)
 ·
  rw [c_1] at hs
  replace c_1:=of_decide_eq_true c_1
  revert a w hs
  refine go 6 [] [6] .n ?_
  intro a w hs;exact fin hs rfl rfl ⟨congrArg Value.bool (by unfold zPo;simp [*]),rfl⟩
 rw [c_1] at hs
 replace c_1:=of_decide_eq_false c_1
 revert a w hs
 refine go 6 [] [6] .n ?_
 intro a w hs;exact fin hs rfl rfl ⟨congrArg Value.bool (by unfold zPo;simp [*]),rfl⟩
theorem zTD (f:FuncId) (x1 x2 x3:Int) (y1 y2 y3:Int) (z1 z2 z3:Int) (hcl:∀ args w,(callFunc f args).run Tryz.prog w = .ok (.enter f args) w) (hf1:∀ w0,Calls Tryz.prog f #[zI x1,zI y1] w0 (zAh w0 (zI z1))) (hf2:∀ w0,Calls Tryz.prog f #[zI x2,zI y2] w0 (zAh w0 (zI z2))) (hf3:∀ w0,Calls Tryz.prog f #[zI x3,zI y3] w0 (zAh w0 (zI z3))) (w0:World):Calls Tryz.prog 258 #[.agg #[zI x1,zI x2,zI x3],.agg #[zI y1,zI y2,zI y3],.func (.func f) #[] #[]] w0 (zAh w0 (.agg #[zI z1,zI z2,zI z3])):=by
 refine zG (F0:=[(0,.agg #[zI x1,zI x2,zI x3]),(1,.agg #[zI y1,zI y2,zI y3]),(2,.func (.func f) #[] #[])]) func258 rfl rfl rfl (.c (.c (.c .n))) (Mem.nil _) ?_
 refine go 5 [0,0] [9,7,6,4,3,2] .n (λg1=>λg2=>λg3=>λg4=>?_)
 intro a w hs;refine zCA 3 ?_
 revert a w hs
 refine go 4 [] [8,9,7,6,4,3,2] .n ?_
 intro a w hs
 refine zO [.p [] [],.p [] [],.p [] [],.p [2] [],.p [3] [0],.p [] [],.p [5] [],.p [6] [1],.v [7,4,1] (zI z1),.p [0] [],.s [9,8] [0] [0] []] [] hs (.c .z .n) (.c (.s (.s .z)) (.c (.s .z) .n)) (by kernel_rfl) ⟨rfl,rfl,λ_ _ _ _ hm hs K=>zAr (us:=[]) (v:=zI z1) hs rfl (.c rfl (.c rfl .n)) rfl hcl (hf1 _) rfl (vk K),rfl,⟨rfl,by kernel_rfl,λ_=>rfl,rfl,rfl,trivial⟩,λ_=>rfl,?_⟩
 refine goE 2 [] [9,7,6,4,3,2] .n ⟨by decide,?_⟩
 intro a w hs;refine zAL ?_
 revert a w hs
 refine go 4 [] [8,9,7,6,4,3,2] .n ?_
 intro a w hs
 refine zO [.p [] [],.p [] [],.p [] [],.p [2] [],.p [3] [0],.p [] [],.p [5] [],.p [6] [1],.v [7,4,1] (zI z2),.p [0] [],.s [9,8] [0] [0] []] [] hs (.c (.s (.s (.s .z))) .n) (.c (.s (.s .z)) (.c (.s .z) .n)) (by kernel_rfl) ⟨rfl,rfl,λ_ _ _ _ hm hs K=>zAr (us:=[]) (v:=zI z2) hs rfl (.c rfl (.c rfl .n)) rfl hcl (hf2 _) rfl (vk K),rfl,⟨rfl,by kernel_rfl,λ_=>rfl,rfl,rfl,trivial⟩,λ_=>rfl,?_⟩
 refine goE 2 [] [9,7,6,4,3,2] .n ⟨by decide,?_⟩
 intro a w hs;refine zAL ?_
 revert a w hs
 refine go 4 [] [8,9,7,6,4,3,2] .n ?_
 intro a w hs
 refine zO [.p [] [],.p [] [],.p [] [],.p [2] [],.p [3] [0],.p [] [],.p [5] [],.p [6] [1],.v [7,4,1] (zI z3),.p [0] [],.s [9,8] [0] [0] []] [] hs (.c (.s (.s (.s .z))) .n) (.c (.s (.s .z)) (.c (.s .z) .n)) (by kernel_rfl) ⟨rfl,rfl,λ_ _ _ _ hm hs K=>zAr (us:=[]) (v:=zI z3) hs rfl (.c rfl (.c rfl .n)) rfl hcl (hf3 _) rfl (vk K),rfl,⟨rfl,by kernel_rfl,λ_=>rfl,rfl,rfl,trivial⟩,λ_=>rfl,?_⟩
 refine goE 2 [] [9,7,6,4,3,2] .n ⟨by decide,?_⟩
 intro a w hs;refine zAL ?_
 revert a w hs
 refine go 4 [0,1] [6] (.c (.s (.s (.s .z))) (.c .z .n)) ⟨rfl,rfl,?_⟩
 intro a w hs;exact zI0 hs rfl rfl (.s .z) (.z (.c (.c (.c .n)))) isAgg40 sizeOf40 (.c (.s (.s (.s .z))) (.c (.s (.s .z)) (.c (.s .z) (.c .z .n)))) ⟨rfl,rfl⟩
theorem zUU (f:FuncId) (x1 x2 x3:Int) (y1 y2 y3:Int) (z1 z2 z3:Int×Int) (hcl:∀ args w,(callFunc f args).run Tryz.prog w = .ok (.enter f args) w) (hf1:∀ w0,Calls Tryz.prog f #[zI x1,zI y1] w0 (zAh w0 (.agg #[zI z1.1,zI z1.2]))) (hf2:∀ w0,Calls Tryz.prog f #[zI x2,zI y2] w0 (zAh w0 (.agg #[zI z2.1,zI z2.2]))) (hf3:∀ w0,Calls Tryz.prog f #[zI x3,zI y3] w0 (zAh w0 (.agg #[zI z3.1,zI z3.2]))) (w0:World):Calls Tryz.prog 61 #[.agg #[zI x1,zI x2,zI x3],.agg #[zI y1,zI y2,zI y3],.func (.func f) #[] #[]] w0 (zAh w0 (.agg #[zI z1.1,zI z1.2,zI z2.1,zI z2.2,zI z3.1,zI z3.2])):=by
 refine zG (F0:=[(0,.agg #[zI x1,zI x2,zI x3]),(1,.agg #[zI y1,zI y2,zI y3]),(2,.func (.func f) #[] #[])]) func61 rfl rfl rfl (.c (.c (.c .n))) (Mem.nil _) ?_
 refine go 5 [0,0] [9,7,6,4,3,2] .n (λg1=>λg2=>λg3=>λg4=>?_)
 intro a w hs;refine zCA 3 ?_
 revert a w hs
 refine go 4 [] [8,9,7,6,4,3,2] .n ?_
 intro a w hs
 refine zO [.p [] [],.p [] [],.p [] [],.p [2] [],.p [3] [0],.p [] [],.p [5] [],.p [6] [1],.v [7,4,1] (.agg #[zI z1.1,zI z1.2]),.p [0] [],.s [9,8] [0] [0] []] [] hs (.c .z .n) (.c (.s (.s .z)) (.c (.s .z) .n)) (by kernel_rfl) ⟨rfl,rfl,λ_ _ _ _ hm hs K=>zAr (us:=[]) (v:=.agg #[zI z1.1,zI z1.2]) hs rfl (.c rfl (.c rfl .n)) rfl hcl (hf1 _) rfl (vk K),rfl,⟨rfl,by kernel_rfl,λ_=>rfl,rfl,rfl,trivial⟩,λ_=>rfl,?_⟩
 refine goE 2 [] [9,7,6,4,3,2] .n ⟨by decide,?_⟩
 intro a w hs;refine zAL ?_
 revert a w hs
 refine go 4 [] [8,9,7,6,4,3,2] .n ?_
 intro a w hs
 refine zO [.p [] [],.p [] [],.p [] [],.p [2] [],.p [3] [0],.p [] [],.p [5] [],.p [6] [1],.v [7,4,1] (.agg #[zI z2.1,zI z2.2]),.p [0] [],.s [9,8] [0] [0] []] [] hs (.c (.s (.s (.s .z))) .n) (.c (.s (.s .z)) (.c (.s .z) .n)) (by kernel_rfl) ⟨rfl,rfl,λ_ _ _ _ hm hs K=>zAr (us:=[]) (v:=.agg #[zI z2.1,zI z2.2]) hs rfl (.c rfl (.c rfl .n)) rfl hcl (hf2 _) rfl (vk K),rfl,⟨rfl,by kernel_rfl,λ_=>rfl,rfl,rfl,trivial⟩,λ_=>rfl,?_⟩
 refine goE 2 [] [9,7,6,4,3,2] .n ⟨by decide,?_⟩
 intro a w hs;refine zAL ?_
 revert a w hs
 refine go 4 [] [8,9,7,6,4,3,2] .n ?_
 intro a w hs
 refine zO [.p [] [],.p [] [],.p [] [],.p [2] [],.p [3] [0],.p [] [],.p [5] [],.p [6] [1],.v [7,4,1] (.agg #[zI z3.1,zI z3.2]),.p [0] [],.s [9,8] [0] [0] []] [] hs (.c (.s (.s (.s .z))) .n) (.c (.s (.s .z)) (.c (.s .z) .n)) (by kernel_rfl) ⟨rfl,rfl,λ_ _ _ _ hm hs K=>zAr (us:=[]) (v:=.agg #[zI z3.1,zI z3.2]) hs rfl (.c rfl (.c rfl .n)) rfl hcl (hf3 _) rfl (vk K),rfl,⟨rfl,by kernel_rfl,λ_=>rfl,rfl,rfl,trivial⟩,λ_=>rfl,?_⟩
 refine goE 2 [] [9,7,6,4,3,2] .n ⟨by decide,?_⟩
 intro a w hs;refine zAL ?_
 revert a w hs
 refine go 4 [0,1] [6] (.c (.s (.s (.s .z))) (.c .z .n)) ⟨rfl,rfl,?_⟩
 intro a w hs;exact zI0 hs rfl rfl (.s .z) (.z (.c (.c (.c (.c (.c (.c .n))))))) isAgg125 sizeOf125 (.c (.s (.s (.s .z))) (.c (.s (.s .z)) (.c (.s .z) (.c .z .n)))) ⟨rfl,rfl⟩
theorem zT1 (f:FuncId) (x1 x2 x3:Int) (y1 y2 y3:Int×Int) (z1 z2 z3:Int) (hcl:∀ args w,(callFunc f args).run Tryz.prog w = .ok (.enter f args) w) (hf1:∀ w0,Calls Tryz.prog f #[zI x1,.agg #[zI y1.1,zI y1.2]] w0 (zAh w0 (zI z1))) (hf2:∀ w0,Calls Tryz.prog f #[zI x2,.agg #[zI y2.1,zI y2.2]] w0 (zAh w0 (zI z2))) (hf3:∀ w0,Calls Tryz.prog f #[zI x3,.agg #[zI y3.1,zI y3.2]] w0 (zAh w0 (zI z3))) (w0:World):Calls Tryz.prog 63 #[.agg #[zI x1,zI x2,zI x3],.agg #[zI y1.1,zI y1.2,zI y2.1,zI y2.2,zI y3.1,zI y3.2],.func (.func f) #[] #[]] w0 (zAh w0 (.agg #[zI z1,zI z2,zI z3])):=by
 refine zG (F0:=[(0,.agg #[zI x1,zI x2,zI x3]),(1,.agg #[zI y1.1,zI y1.2,zI y2.1,zI y2.2,zI y3.1,zI y3.2]),(2,.func (.func f) #[] #[])]) func63 rfl rfl rfl (.c (.c (.c .n))) (Mem.nil _) ?_
 refine go 5 [0,0] [9,7,6,4,3,2] .n (λg1=>λg2=>λg3=>λg4=>?_)
 intro a w hs;refine zCA 3 ?_
 revert a w hs
 refine go 4 [] [8,9,7,6,4,3,2] .n ?_
 intro a w hs
 refine zO [.p [] [],.p [] [],.p [] [],.p [2] [],.p [3] [0],.p [] [],.p [5] [],.p [6] [1],.v [7,4,1] (zI z1),.p [0] [],.s [9,8] [0] [0] []] [] hs (.c .z .n) (.c (.s (.s .z)) (.c (.s .z) .n)) (by kernel_rfl) ⟨rfl,rfl,λ_ _ _ _ hm hs K=>zAr (us:=[]) (v:=zI z1) hs rfl (.c rfl (.c rfl .n)) rfl hcl (hf1 _) rfl (vk K),rfl,⟨rfl,by kernel_rfl,λ_=>rfl,rfl,rfl,trivial⟩,λ_=>rfl,?_⟩
 refine goE 2 [] [9,7,6,4,3,2] .n ⟨by decide,?_⟩
 intro a w hs;refine zAL ?_
 revert a w hs
 refine go 4 [] [8,9,7,6,4,3,2] .n ?_
 intro a w hs
 refine zO [.p [] [],.p [] [],.p [] [],.p [2] [],.p [3] [0],.p [] [],.p [5] [],.p [6] [1],.v [7,4,1] (zI z2),.p [0] [],.s [9,8] [0] [0] []] [] hs (.c (.s (.s (.s .z))) .n) (.c (.s (.s .z)) (.c (.s .z) .n)) (by kernel_rfl) ⟨rfl,rfl,λ_ _ _ _ hm hs K=>zAr (us:=[]) (v:=zI z2) hs rfl (.c rfl (.c rfl .n)) rfl hcl (hf2 _) rfl (vk K),rfl,⟨rfl,by kernel_rfl,λ_=>rfl,rfl,rfl,trivial⟩,λ_=>rfl,?_⟩
 refine goE 2 [] [9,7,6,4,3,2] .n ⟨by decide,?_⟩
 intro a w hs;refine zAL ?_
 revert a w hs
 refine go 4 [] [8,9,7,6,4,3,2] .n ?_
 intro a w hs
 refine zO [.p [] [],.p [] [],.p [] [],.p [2] [],.p [3] [0],.p [] [],.p [5] [],.p [6] [1],.v [7,4,1] (zI z3),.p [0] [],.s [9,8] [0] [0] []] [] hs (.c (.s (.s (.s .z))) .n) (.c (.s (.s .z)) (.c (.s .z) .n)) (by kernel_rfl) ⟨rfl,rfl,λ_ _ _ _ hm hs K=>zAr (us:=[]) (v:=zI z3) hs rfl (.c rfl (.c rfl .n)) rfl hcl (hf3 _) rfl (vk K),rfl,⟨rfl,by kernel_rfl,λ_=>rfl,rfl,rfl,trivial⟩,λ_=>rfl,?_⟩
 refine goE 2 [] [9,7,6,4,3,2] .n ⟨by decide,?_⟩
 intro a w hs;refine zAL ?_
 revert a w hs
 refine go 4 [0,1] [6] (.c (.s (.s (.s .z))) (.c .z .n)) ⟨rfl,rfl,?_⟩
 intro a w hs;exact zI0 hs rfl rfl (.s .z) (.z (.c (.c (.c .n)))) isAgg40 sizeOf40 (.c (.s (.s (.s .z))) (.c (.s (.s .z)) (.c (.s .z) (.c .z .n)))) ⟨rfl,rfl⟩
theorem zYT (x1 x2 x3 y1 y2 y3:Int) (hx1 : -9223372036854775808≤x1∧x1≤9223372036854775807) (hx2 : -9223372036854775808≤x2∧x2≤9223372036854775807) (hx3 : -9223372036854775808≤x3∧x3≤9223372036854775807) (hy1 : -9223372036854775808≤y1∧y1≤9223372036854775807) (hy2 : -9223372036854775808≤y2∧y2≤9223372036854775807) (hy3 : -9223372036854775808≤y3∧y3≤9223372036854775807) (w0:World):Calls Tryz.prog 206 #[.agg #[zI x1,zI x2,zI x3],.agg #[zI y1,zI y2,zI y3]] w0 (zAh w0 (.agg #[zI (zC0 x1 y1),zI (zC0 x2 y2),zI (zC0 x3 y3)])):=by
 refine zG (F0:=[(0,.agg #[zI x1,zI x2,zI x3]),(1,.agg #[zI y1,zI y2,zI y3])]) func206 rfl rfl rfl (.c (.c .n)) (Mem.nil _) ?_
 refine go 5 [0,0,2,1] [6,5,4] .n (λg1=>λg2=>λg3=>⟨rfl,rfl,?_⟩)
 intro a w hs;refine zB (v:=.agg #[zI (zC0 x1 y1),zI (zC0 x2 y2),zI (zC0 x3 y3)]) hs (.c rfl (.c rfl (.c rfl .n))) call258 (zTD 147 x1 x2 x3 y1 y2 y3 (zC0 x1 y1) (zC0 x2 y2) (zC0 x3 y3) call147 (zEr _ _ (by omega) (by omega)) (zEr _ _ (by omega) (by omega)) (zEr _ _ (by omega) (by omega)) _) rfl ?_
 refine goL 1 [0] [4] (.c .z .n) ⟨rfl,?_⟩
 intro a w hs;exact zI0 hs rfl rfl .z (.z (.c (.c (.c .n)))) isAgg40 sizeOf40 (.c (.s (.s .z)) (.c (.s .z) (.c .z .n))) ⟨rfl,rfl⟩
theorem zTH (x1 x2 x3 k:Int) (hx1 : -9223372036854775808≤x1∧x1≤9223372036854775807) (hx2 : -9223372036854775808≤x2∧x2≤9223372036854775807) (hx3 : -9223372036854775808≤x3∧x3≤9223372036854775807) (hk : -9223372036854775808≤k∧k≤9223372036854775807) (w0:World):Calls Tryz.prog 207 #[.agg #[zI x1,zI x2,zI x3],zI k] w0 (zAh w0 (.agg #[zI (zA1 x1 k),zI (zA1 x2 k),zI (zA1 x3 k)])):=by
 refine zG (F0:=[(0,.agg #[zI x1,zI x2,zI x3]),(1,zI k)]) func207 rfl rfl rfl (.c (.c .n)) (Mem.nil _) ?_
 refine go 7 [0,1] [9,5,4] .n (λg1=>λg2=>⟨rfl,?_⟩)
 intro a w hs;refine zB (v:=.agg #[zI (zA1 x1 k),zI (zA1 x2 k),zI (zA1 x3 k)]) hs (.c rfl (.c rfl (.c rfl .n))) call258 (zTD 159 x1 x2 x3 k k k (zA1 x1 k) (zA1 x2 k) (zA1 x3 k) call159 (zDJ _ _ (by omega) (by omega)) (zDJ _ _ (by omega) (by omega)) (zDJ _ _ (by omega) (by omega)) _) rfl ?_
 refine goL 1 [0] [4] (.c .z .n) ⟨rfl,?_⟩
 intro a w hs;exact zI0 hs rfl rfl .z (.z (.c (.c (.c .n)))) isAgg40 sizeOf40 (.c (.s .z) (.c .z .n)) ⟨rfl,rfl⟩
theorem zaA (x1 x2 x3 y1 y2 y3 k:Int) (hx1 : -9223372036854775808≤x1∧x1≤9223372036854775807) (hx2 : -9223372036854775808≤x2∧x2≤9223372036854775807) (hx3 : -9223372036854775808≤x3∧x3≤9223372036854775807) (hy1 : -9223372036854775808≤y1∧y1≤9223372036854775807) (hy2 : -9223372036854775808≤y2∧y2≤9223372036854775807) (hy3 : -9223372036854775808≤y3∧y3≤9223372036854775807) (hk : -9223372036854775808≤k∧k≤9223372036854775807) (w0:World):Calls Tryz.prog 152 #[.agg #[zI x1,zI x2,zI x3],.agg #[zI y1,zI y2,zI y3],zI k] w0 (zAh w0 (.agg #[zI (zC0 x1 (zA1 y1 k)),zI (zC0 x2 (zA1 y2 k)),zI (zC0 x3 (zA1 y3 k))])):=by
 refine zG (F0:=[(0,.agg #[zI x1,zI x2,zI x3]),(1,.agg #[zI y1,zI y2,zI y3]),(2,zI k)]) func152 rfl rfl rfl (.c (.c (.c .n))) (Mem.nil _) ?_
 refine go 3 [0,0] [6,4,3,2] .n (λg1=>λg2=>λg3=>?_)
 intro a w hs
 refine zO [.p [] [0],.p [] [1],.p [] [],.v [2,1] (.agg #[zI (zA1 y1 k),zI (zA1 y2 k),zI (zA1 y3 k)]),.v [3,0] (.agg #[zI (zC0 x1 (zA1 y1 k)),zI (zC0 x2 (zA1 y2 k)),zI (zC0 x3 (zA1 y3 k))]),.s [4] [0] [0] []] [] hs (.c .z .n) (.c (.s .z) (.c .z .n)) (by kernel_rfl) ⟨rfl,rfl,λ_ _ _ _ hm hs K=>zB (v:=.agg #[zI (zA1 y1 k),zI (zA1 y2 k),zI (zA1 y3 k)]) hs (.c rfl (.c rfl .n)) call207 (zTH y1 y2 y3 k (by omega) (by omega) (by omega) (by omega) _) rfl (vk K),λ_ _ _ _ hm hs K=>zB (v:=.agg #[zI (zC0 x1 (zA1 y1 k)),zI (zC0 x2 (zA1 y2 k)),zI (zC0 x3 (zA1 y3 k))]) hs (.c rfl (.c rfl .n)) call206 (zYT x1 x2 x3 (zA1 y1 k) (zA1 y2 k) (zA1 y3 k) (by omega) (by omega) (by omega) (zCm _ _) (zCm _ _) (zCm _ _) _) rfl (vk K),rfl,⟨rfl,by kernel_rfl,λ_=>rfl,rfl,rfl,trivial⟩,λ_=>rfl,?_⟩
 refine goE 0 [] [6] .n ?_
 intro a w hs;exact zI0 hs rfl rfl (.s (.s .z)) (.z (.c (.c (.c .n)))) isAgg40 sizeOf40 (.c (.s (.s .z)) (.c (.s .z) (.c .z .n))) ⟨rfl,rfl⟩
theorem zGa (p q:Int) (w0:World):Calls Tryz.prog 62 #[zI p,zI q] w0 (zAh w0 (.agg #[zI p,zI q])):=by
 refine zG (F0:=[(0,zI p),(1,zI q)]) func62 rfl rfl rfl (.c (.c .n)) (Mem.nil _) ?_
 refine go 5 [0] [4] .n (λg1=>⟨rfl,?_⟩)
 intro a w hs;exact zI0 hs rfl rfl .z (.z (.c (.c .n))) isAgg124 sizeOf124 (.c .z .n) ⟨rfl,rfl⟩
theorem zGv (x p q:Int) (w0:World):Calls Tryz.prog 64 #[zI x,.agg #[zI p,zI q]] w0 (zAh w0 (zI (zAI x p q))):=by
 refine zG (F0:=[(0,zI x),(1,.agg #[zI p,zI q])]) func64 rfl rfl rfl (.c (.c .n)) (Mem.nil _) ?_
 refine go 7 [0,0,0] [9,7,5] .n (λg1=>⟨rfl,rfl,?_⟩)
 intro a w hs;refine zB (v:=zI (zAI x p q)) hs (.c rfl (.c rfl (.c rfl .n))) call65 (zHu x p q _) rfl ?_
 refine goL 1 [] [4] .n ?_
 refine cl (·.drop (.c .z .n)) ?_
 intro a w hs;exact fin hs rfl rfl ⟨rfl,rfl⟩
theorem zTN (x1 x2 x3 y1 y2 y3 z1 z2 z3:Int) (w0:World):Calls Tryz.prog 35 #[.agg #[zI x1,zI x2,zI x3],.agg #[zI y1,zI y2,zI y3],.agg #[zI z1,zI z2,zI z3]] w0 (zAh w0 (.agg #[zI (zAI x1 y1 z1),zI (zAI x2 y2 z2),zI (zAI x3 y3 z3)])):=by
 refine zG (F0:=[(0,.agg #[zI x1,zI x2,zI x3]),(1,.agg #[zI y1,zI y2,zI y3]),(2,.agg #[zI z1,zI z2,zI z3])]) func35 rfl rfl rfl (.c (.c (.c .n))) (Mem.nil _) ?_
 refine go 6 [0,0,0,2,1] [9,8,6,3] .n (λg1=>λg2=>λg3=>λg4=>⟨rfl,rfl,?_⟩)
 intro a w hs;refine zB (v:=.agg #[zI y1,zI z1,zI y2,zI z2,zI y3,zI z3]) hs (.c rfl (.c rfl (.c rfl .n))) call61 (zUU 62 y1 y2 y3 z1 z2 z3 (y1,z1) (y2,z2) (y3,z3) call62 (zGa _ _) (zGa _ _) (zGa _ _) _) rfl ?_
 refine goL 4 [0,1,0] [12,11,6] (.c (.s (.s (.s .z))) .n) (λg5=>⟨rfl,rfl,rfl,?_⟩)
 intro a w hs;refine zB (v:=.agg #[zI (zAI x1 y1 z1),zI (zAI x2 y2 z2),zI (zAI x3 y3 z3)]) hs (.c rfl (.c rfl (.c rfl .n))) call63 (zT1 64 x1 x2 x3 (y1,z1) (y2,z2) (y3,z3) (zAI x1 y1 z1) (zAI x2 y2 z2) (zAI x3 y3 z3) call64 (zGv _ _ _) (zGv _ _ _) (zGv _ _ _) _) rfl ?_
 refine goL 1 [0] [6] (.c (.s (.s .z)) .n) ⟨rfl,?_⟩
 intro a w hs;exact zI0 hs rfl rfl .z (.z (.c (.c (.c .n)))) isAgg40 sizeOf40 (.c (.s (.s (.s (.s .z)))) (.c (.s (.s (.s .z))) (.c (.s (.s .z)) (.c (.s .z) (.c .z .n))))) ⟨rfl,rfl⟩
theorem zRP (x1 x2 x3 y1 y2 y3 z1 z2 z3:Int) (w0:World):Calls Tryz.prog 11 #[.agg #[zI x1,zI x2,zI x3],.agg #[zI y1,zI y2,zI y3],.agg #[zI z1,zI z2,zI z3]] w0 (zAh w0 (.bool ((zAI x1 y1 z1:Int)==x1 && (zAI x2 y2 z2:Int)==x2 && (zAI x3 y3 z3:Int)==x3))):=by
 refine zG (F0:=[(0,.agg #[zI x1,zI x2,zI x3]),(1,.agg #[zI y1,zI y2,zI y3]),(2,.agg #[zI z1,zI z2,zI z3])]) func11 rfl rfl rfl (.c (.c (.c .n))) (Mem.nil _) ?_
 refine go 4 [0,0,0] [5,4,3] .n (λg1=>λg2=>λg3=>?_)
 intro a w hs
 refine zO [.p [] [0],.p [] [1],.p [] [2],.v [2,1,0] (.agg #[zI (zAI x1 y1 z1),zI (zAI x2 y2 z2),zI (zAI x3 y3 z3)]),.p [] [0],.v [4,3] (.bool ((zAI x1 y1 z1:Int)==x1 && (zAI x2 y2 z2:Int)==x2 && (zAI x3 y3 z3:Int)==x3)),.p [5] []] [6] hs .n (.c (.s (.s .z)) (.c (.s .z) (.c .z .n))) (by kernel_rfl) ⟨rfl,rfl,rfl,λ_ _ _ _ hm hs K=>zB (v:=.agg #[zI (zAI x1 y1 z1),zI (zAI x2 y2 z2),zI (zAI x3 y3 z3)]) hs (.c rfl (.c rfl (.c rfl .n))) call35 (zTN x1 x2 x3 y1 y2 y3 z1 z2 z3 _) rfl (vk K),rfl,λ_ _ _ _ hm hs K=>zbD hs rfl rfl (by kernel_rfl) underlying40 underlying2 sizeOf2 isAgg2 rfl (vk K),⟨rfl,by kernel_rfl,λ_=>rfl,rfl,rfl,trivial⟩,λ_=>rfl,?_⟩
 refine goE 0 [] [6] .n ?_
 refine cl (·.drop (.c (.s (.s .z)) (.c (.s .z) (.c .z .n)))) ?_
 intro a w hs;exact fin hs rfl rfl ⟨rfl,rfl⟩
theorem zIW (x y n d:Int) (hx : -9223372036854775808≤x∧x≤9223372036854775807) (hy : -9223372036854775808≤y∧y≤9223372036854775807) (u1 u2:Nat) (w0:World) (hu1:(blk u1 [.int .i64 n] 2).p w0) (hu2:(blk u2 [.int .i64 d] 2).p w0):Calls Tryz.prog 341 #[zI x,zI y,pt u1 0,pt u2 0] w0 (zAh w0 (zI (bif zBP n d==0 then zCY x y n d else 0))):=by
 refine zG (F0:=[(0,zI x),(1,zI y),(2,pt u1 0),(3,pt u2 0)]) func341 rfl rfl rfl (.c (.c (.c (.c .n)))) (Mem.nil _) ?_
 refine go 3 [] [11,10,2,3] .n ?_
 intro a w hs;refine zAC hs rfl (hs.mem.keep hu1 (by simp [zN,blk])) .z isAgg2 rfl ?_
 intro a w hs;refine zAC hs rfl (hs.mem.keep hu2 (by simp [zN,blk])) .z isAgg2 rfl ?_
 intro a w hs;refine zB (v:=.tuple #[zI (bif zBP n d==0 then zCY x y n d else 0),nI (zBP n d)]) hs (.c rfl (.c rfl (.c rfl (.c rfl .n)))) call208 (zN1 x y n d (by omega) (by omega) _) rfl ?_
 refine goL 7 [] [6] .n ?_
 intro a w hs;exact fin hs rfl rfl ⟨rfl,rfl⟩
theorem zTo (f:FuncId) (x1 x2 x3 y1 y2 y3 z1 z2 z3 n d:Int) (u1 u2:Nat) (hcl:∀ args w,(callFunc f args).run Tryz.prog w = .ok (.enter f args) w) (hf1:∀ w0,(blk u1 [.int .i64 n] 2).p w0→(blk u2 [.int .i64 d] 2).p w0→Calls Tryz.prog f #[zI x1,zI y1,pt u1 0,pt u2 0] w0 (zAh w0 (zI z1))) (hf2:∀ w0,(blk u1 [.int .i64 n] 2).p w0→(blk u2 [.int .i64 d] 2).p w0→Calls Tryz.prog f #[zI x2,zI y2,pt u1 0,pt u2 0] w0 (zAh w0 (zI z2))) (hf3:∀ w0,(blk u1 [.int .i64 n] 2).p w0→(blk u2 [.int .i64 d] 2).p w0→Calls Tryz.prog f #[zI x3,zI y3,pt u1 0,pt u2 0] w0 (zAh w0 (zI z3))) (w0:World) (hu1:(blk u1 [.int .i64 n] 2).p w0) (hu2:(blk u2 [.int .i64 d] 2).p w0):Calls Tryz.prog 258 #[.agg #[zI x1,zI x2,zI x3],.agg #[zI y1,zI y2,zI y3],.func (.func f) #[] #[pt u1 0,pt u2 0]] w0 (zAh w0 (.agg #[zI z1,zI z2,zI z3])):=by
 refine zG (F0:=[(0,.agg #[zI x1,zI x2,zI x3]),(1,.agg #[zI y1,zI y2,zI y3]),(2,.func (.func f) #[] #[pt u1 0,pt u2 0])]) func258 rfl rfl rfl (.c (.c (.c .n))) (Mem.nil _) ?_
 refine go 5 [0,0] [9,7,6,4,3,2] .n (λg1=>λg2=>λg3=>λg4=>?_)
 intro a w hs;refine zCA 3 ?_
 revert a w hs
 refine go 4 [] [8,9,7,6,4,3,2] .n ?_
 intro a w hs
 refine zO [.p [] [],.p [] [],.p [] [],.p [2] [],.p [3] [0],.p [] [],.p [5] [],.p [6] [1],.v [7,4,1] (zI z1),.p [0] [],.s [9,8] [0] [0] []] [] hs (.c .z .n) (.c (.s (.s .z)) (.c (.s .z) .n)) (by kernel_rfl) ⟨rfl,rfl,λ_ _ _ _ hm hs K=>zAr (us:=[pt u1 0,pt u2 0]) (v:=zI z1) hs rfl (.c rfl (.c rfl .n)) rfl hcl (hf1 _ (hm.keep hu1 (by simp [zN,blk])) (hm.keep hu2 (by simp [zN,blk]))) rfl (vk K),rfl,⟨rfl,by kernel_rfl,λ_=>rfl,rfl,rfl,trivial⟩,λ_=>rfl,?_⟩
 refine goE 2 [] [9,7,6,4,3,2] .n ⟨by decide,?_⟩
 intro a w hs;refine zAL ?_
 revert a w hs
 refine go 4 [] [8,9,7,6,4,3,2] .n ?_
 intro a w hs
 refine zO [.p [] [],.p [] [],.p [] [],.p [2] [],.p [3] [0],.p [] [],.p [5] [],.p [6] [1],.v [7,4,1] (zI z2),.p [0] [],.s [9,8] [0] [0] []] [] hs (.c (.s (.s (.s .z))) .n) (.c (.s (.s .z)) (.c (.s .z) .n)) (by kernel_rfl) ⟨rfl,rfl,λ_ _ _ _ hm hs K=>zAr (us:=[pt u1 0,pt u2 0]) (v:=zI z2) hs rfl (.c rfl (.c rfl .n)) rfl hcl (hf2 _ (hm.keep hu1 (by simp [zN,blk])) (hm.keep hu2 (by simp [zN,blk]))) rfl (vk K),rfl,⟨rfl,by kernel_rfl,λ_=>rfl,rfl,rfl,trivial⟩,λ_=>rfl,?_⟩
 refine goE 2 [] [9,7,6,4,3,2] .n ⟨by decide,?_⟩
 intro a w hs;refine zAL ?_
 revert a w hs
 refine go 4 [] [8,9,7,6,4,3,2] .n ?_
 intro a w hs
 refine zO [.p [] [],.p [] [],.p [] [],.p [2] [],.p [3] [0],.p [] [],.p [5] [],.p [6] [1],.v [7,4,1] (zI z3),.p [0] [],.s [9,8] [0] [0] []] [] hs (.c (.s (.s (.s .z))) .n) (.c (.s (.s .z)) (.c (.s .z) .n)) (by kernel_rfl) ⟨rfl,rfl,λ_ _ _ _ hm hs K=>zAr (us:=[pt u1 0,pt u2 0]) (v:=zI z3) hs rfl (.c rfl (.c rfl .n)) rfl hcl (hf3 _ (hm.keep hu1 (by simp [zN,blk])) (hm.keep hu2 (by simp [zN,blk]))) rfl (vk K),rfl,⟨rfl,by kernel_rfl,λ_=>rfl,rfl,rfl,trivial⟩,λ_=>rfl,?_⟩
 refine goE 2 [] [9,7,6,4,3,2] .n ⟨by decide,?_⟩
 intro a w hs;refine zAL ?_
 revert a w hs
 refine go 4 [0,1] [6] (.c (.s (.s (.s .z))) (.c .z .n)) ⟨rfl,rfl,?_⟩
 intro a w hs;exact zI0 hs rfl rfl (.s .z) (.z (.c (.c (.c .n)))) isAgg40 sizeOf40 (.c (.s (.s (.s .z))) (.c (.s (.s .z)) (.c (.s .z) (.c .z .n)))) ⟨rfl,rfl⟩
theorem zTX (x1 x2 x3 y1 y2 y3 n d:Int) (hx1 : -9223372036854775808≤x1∧x1≤9223372036854775807) (hx2 : -9223372036854775808≤x2∧x2≤9223372036854775807) (hx3 : -9223372036854775808≤x3∧x3≤9223372036854775807) (hy1 : -9223372036854775808≤y1∧y1≤9223372036854775807) (hy2 : -9223372036854775808≤y2∧y2≤9223372036854775807) (hy3 : -9223372036854775808≤y3∧y3≤9223372036854775807) (w0:World):Calls Tryz.prog 340 #[.agg #[zI x1,zI x2,zI x3],.agg #[zI y1,zI y2,zI y3],zI n,zI d] w0 (zAh w0 (.tuple #[.agg #[zI (bif zBP n d==0 then zCY x1 y1 n d else 0),zI (bif zBP n d==0 then zCY x2 y2 n d else 0),zI (bif zBP n d==0 then zCY x3 y3 n d else 0)],nI (zBP n d)])):=by
 refine zG (F0:=[(0,.agg #[zI x1,zI x2,zI x3]),(1,.agg #[zI y1,zI y2,zI y3]),(2,zI n),(3,zI d)]) func340 rfl rfl rfl (.c (.c (.c (.c .n)))) (Mem.nil _) ?_
 refine go 8 [0,0,0,0,2,1] [14,13,8,7,6,5,4] .n (λg1=>λg2=>λg3=>λg4=>λg5=>⟨rfl,rfl,?_⟩)
 intro a w hs;refine zB (v:=.tuple #[zI (bif zBP n d==0 then zBr n d else 0),nI (zBP n d)]) hs (.c rfl (.c rfl .n)) call335 (zOB n d _) rfl ?_
 refine goL 7 [] [19,11,8,7,6,5,4] .n ?_
 refine ifG rfl (λc_6=>?_) (λc_6=>?_)
 ·
  have hbad:=zIH (by assumption)
  refine go 4 [0] [9,8] (.c .z .n) ⟨rfl,?_⟩
  intro a w hs;exact zBM hs rfl rfl rfl .z (.z (.c (.c (.c .n)))) isAgg40 sizeOf40 (.c (.s (.s (.s (.s .z)))) (.c (.s (.s (.s .z))) (.c (.s (.s .z)) (.c (.s .z) (.c .z .n))))) ⟨zSE hbad _ _ _,rfl⟩
 have hc0:=zCt (by assumption)
 refine go 3 [0,1] [24,23,22,8] (.c (.s (.s (.s (.s .z)))) (.c (.s (.s (.s .z))) .n)) ⟨rfl,rfl,?_⟩
 intro a w hs;refine zB (v:=.agg #[zI (bif zBP n d==0 then zCY x1 y1 n d else 0),zI (bif zBP n d==0 then zCY x2 y2 n d else 0),zI (bif zBP n d==0 then zCY x3 y3 n d else 0)]) hs (.c rfl (.c rfl (.c rfl .n))) call258 (zTo 341 x1 x2 x3 y1 y2 y3 (bif zBP n d==0 then zCY x1 y1 n d else 0) (bif zBP n d==0 then zCY x2 y2 n d else 0) (bif zBP n d==0 then zCY x3 y3 n d else 0) n d g3 g4 call341 (λw h1 h2=>zIW _ _ _ _ (by omega) (by omega) _ _ w h1 h2) (λw h1 h2=>zIW _ _ _ _ (by omega) (by omega) _ _ w h1 h2) (λw h1 h2=>zIW _ _ _ _ (by omega) (by omega) _ _ w h1 h2) _ (hs.mem.del (.s (.s (.s (.s .z))))) (hs.mem.del (.s (.s (.s .z))))) rfl ?_
 refine goL 2 [0] [9,8] (.c (.s (.s .z)) .n) ⟨rfl,?_⟩
 intro a w hs;exact zBM hs rfl rfl rfl .z (.z (.c (.c (.c .n)))) isAgg40 sizeOf40 (.c (.s (.s (.s (.s .z)))) (.c (.s (.s (.s .z))) (.c (.s (.s .z)) (.c (.s .z) (.c .z .n))))) ⟨by rw [hc0];rfl,rfl⟩
end Go.Proofs.YtljpfgacpofkpaaGreat
