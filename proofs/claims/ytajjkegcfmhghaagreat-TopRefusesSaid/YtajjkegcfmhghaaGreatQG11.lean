import Derived.Test.YtajjkegcfmhghaaGreatQG7
import Derived.Test.YtajjkegcfmhghaaGreatQG9
import Derived.Test.YtajjkegcfmhghaaGreatQG10
import Derived.Test.YtajjkegcfmhghaaGreatQSxBasB
set_option linter.unusedVariables false
set_option linter.unusedSimpArgs false
namespace Go.Proofs.YtajjkegcfmhghaaGreat
open Tryz
open Go Go.Sx Go.RowKit
set_option maxRecDepth 4000
set_option maxHeartbeats 1000000
theorem zZh (v:Value) (m:Nat) (hvs:zD3 v m) (w0:World):Calls Tryz.prog 120 #[v] w0 (Ret w0 [] λu N=>∃ b,u = .func (.func 163) #[] #[pt b 0]∧N=[blk b [v] 37]):=by
 refine zG (F0:=[(0,v)]) func120 rfl rfl rfl (.c .n) (Mem.nil _) ?_
 refine go 4 [1] [2] .n ⟨hvs.one,λg1=>?_⟩
 intro a w hs;exact fin hs rfl rfl ⟨_,rfl,rfl⟩
def zLV (L:Nat) (l:List RI) (I:Nat→HA→Prop) (J:HA→Prop):Prop:=∀ (k:Nat) (X:HA) (W:World),I (k+1) X→k<l.length→X.p W→X.foot.Nodup→YieldAt Fence.wide 0 Tryz.prog L #[zI (k:Int),.agg (snV (l.getD k default)).toArray] W λe W'=>∃ b,e = .returned (.bool b)∧∃ N,(∃ X',N=[X']∧((b=true∧I k X')∨(b=false∧J X')))∧Mem W (zO [X]) N W'
theorem zLV.at {L:Nat} {l:List RI} {I:Nat→HA→Prop} {J:HA→Prop} {k:Nat} {X:HA} (h:zLV L l I J) (hI:I (k+1) X) (hk:k<l.length):∀ W:World,(∀ h∈[X],h.p W)→(zO [X]).Nodup→YieldAt Fence.wide (1-1) Tryz.prog L ([zI (k:Int),.agg (snV (l.getD k default)).toArray]:List Value).toArray W λe W'=>∃ b,e = .returned (.bool b)∧∃ N,(∃ X',N=[X']∧((b=true∧I k X')∨(b=false∧J X')))∧Mem W (zO [X]) N W':=λW ha hn=>h k X W hI hk (ha X (by simp)) (by simpa [zO] using hn)
theorem zV5 (L bx:Nat) (l:List RI) (hiv:∀ x∈l,zD3 x.v x.l.length) (v:Value) (I:Nat→HA→Prop) (J:HA→Prop) (X:HA) (w0:World) (hbx:(blk bx [v] 37).p w0) (hbf:bx ∉ zO [X]) (hb:Rd w0 (zO [X]) v 3 l.length (l.flatMap snV)) (hX:X.p w0) (hnd:(zO [X]).Nodup) (hI:I l.length X) (hy:zLV L l I J):Calls Tryz.prog 163 #[.func (.yield L) #[] #[],pt bx 0] w0 (Ret w0 (zO [X]) λu N=>∃ X',N=[X']∧(I 0 X'∨J X')):=by
 have hle:=hb.le
 simp only [maxLen] at hle
 refine enter (F0:=[(0,.func (.yield L) #[] #[]),(1,pt bx 0)]) func163 rfl rfl rfl (.c (.c .n)) (zAq hX (by simpa [zO] using hnd)) λa w hs=>?_
 refine wp_seq_k λK1 hK2=>?_
 refine wp_region_lit ?_
 refine zZ hs rfl (hs.mem.keep hbx hbf) .z isAgg37 rfl ?_;clear hs w a;intro a w hs
 refine zAC hs rfl (hs.rd0 hb).isSl underlying37 rfl ?_;clear hs w a;intro a w hs
 refine zHD hs rfl rfl (by omega) rfl ?_;clear hs w a;intro a w hs
 refine zEH hs rfl rfl ?_;clear hs w a;intro a w hs
 refine wpList_nil ?_
 refine zAw (hK2 _ _ ?_)
 refine wp_block ?_
 refine zLX (λmm_ a w=>∃ k:Nat,∃ Y:HA,mm_=1+k∧St 19 [(0,.func (.yield L) #[] #[]),(1,pt bx 0),(3,zI ((k:Int)-1))] w0 (zO [X]) [Y] a w∧k≤l.length∧I k Y) ⟨l.length,X,rfl,hs.sub (.c rfl (.c rfl (.c rfl .n))),by omega,hI⟩ ?_
 clear hs w a;rintro mm_ a w ⟨k,Y,rfl,hs,hI1_0,hI1_1⟩
 refine wp_seq_k λK3 hK4=>?_
 refine wp_seq_k λK5 hK6=>?_
 refine wp_region_lit ?_
 refine zGe hs rfl rfl ?_;clear hs w a;intro a w hs
 refine zXd hs rfl rfl rfl ?_;clear hs w a;intro a w hs
 refine wpList_nil ?_
 refine zAw (hK6 _ _ ?_)
 refine zZg hs rfl (λc_7=>?_) (λc_7=>?_)
 ·
  replace c_7:=of_decide_eq_true c_7
  have hkj:∃ j,k=j+1:=⟨k-1,by omega⟩;obtain ⟨j,hj⟩:=hkj;subst hj
  have hv_:(((j+1:Nat):Int)-1:Int)=(j:Int):=by omega
  rw [hv_] at hs;clear hv_
  refine wp_skip ?_
  refine zAw (hK4 _ _ ?_)
  refine wp_seq_k λK8 hK9=>?_
  refine wp_block ?_
  refine wp_seq_k λK10 hK11=>?_
  refine (wpIn_wide (n:=1)).1 (wpIn_region_lit (zHd (l1:=[_,_,_,_,_,_]) (r:=none) (λ_ _ h=>by obtain ⟨_,_,h,_⟩:=h;cases h) _ _ (zAz rfl) ?_))
  refine zGe hs rfl rfl ?_;clear hs w a;intro a w hs
  refine zGe hs rfl rfl ?_;clear hs w a;intro a w hs
  refine zZ hs rfl (hs.mem.keep hbx hbf) .z isAgg37 rfl ?_;clear hs w a;intro a w hs
  refine zGe hs rfl rfl ?_;clear hs w a;intro a w hs
  refine zBm (j:=j) hs rfl rfl (hs.rd0 hb) rfl (by omega) underlying37 sizeOf46 rfl ?_;clear hs w a;intro a w hs
  refine zA9 (cs:=snV (l.getD j default)) hs rfl (hs.rd0 hb) (zAh zCI l j (by omega)) (by rw [zAX zCI];omega) (by omega) isAgg46 sizeOf46 rfl ?_;clear hs w a;intro a w hs
  refine wpList_nil ?_
  show wpListIn _ _ _ _ _ _ _ _
  refine zRn (X:=[Y]) hs rfl (.c rfl (.c rfl .n)) (.c .z .n) (hy.at hI1_1 (by omega)) rfl ?_
  clear hs w a;rintro bb _ a w ⟨Y2,rfl,hR2⟩ hs;simp only [List.cons_append,List.nil_append] at hs
  refine zUD (λ_ _ h=>by obtain ⟨_,_,h,_⟩:=h;cases h) (zAz rfl) ?_
  refine zXm hs rfl rfl ?_;clear hs w a;intro a w hs
  refine wpList_nil ?_
  refine zAw (hK11 _ _ ?_)
  refine zZg hs rfl (λc_12=>?_) (λc_12=>?_)
  ·
   replace c_12:=zFy c_12
   refine wp_ret ?_
   refine zds ?_
   refine zdr ?_
   refine zdr ?_
   refine zds ?_
   exact zWS hs rfl ⟨_,rfl,.inr (hR2.elim (λh=>absurd (h.1.symm.trans (by assumption:bb=false)) (by decide)) λh=>h.2)⟩
  replace c_12:=zFv c_12
  refine wp_skip ?_
  refine zbv ?_
  refine zAw (hK9 _ _ ?_)
  refine wp_region_lit ?_
  refine zGe hs rfl rfl ?_;clear hs w a;intro a w hs
  refine zHD hs rfl rfl (by omega) rfl ?_;clear hs w a;intro a w hs
  refine zEH hs rfl rfl ?_;clear hs w a;intro a w hs
  refine wpList_nil ?_
  refine zAw ?_
  refine ⟨_,?_,j,Y2,rfl,hs.sub (.c rfl (.c rfl (.c rfl .n))),by omega,(hR2.elim (λh=>h.2) λh=>absurd (h.1.symm.trans (by assumption:bb=true)) (by decide))⟩
  omega
 replace c_7:=of_decide_eq_false c_7
 have hk0:k=0:=by omega
 subst hk0
 have hI0:=hI1_1
 refine wp_exit ?_
 refine zcv ?_
 refine zcv ?_
 refine zTn ?_
 exact zJW hs rfl ⟨_,rfl,.inl hI0⟩
theorem zSg (L:List RI) (hiv:∀ x∈L,zD3 x.v x.l.length) (v:Value) (t:Int) (w0:World) (hb:Rd w0 [] v 3 L.length (L.flatMap snV)) (hz:zDv none (tms L)≠0):Calls Tryz.prog 82 #[.int .i64 t,v] w0 (zAf w0 (.tuple #[zI 0,zI 0,nI (zDv none (tms L))])):=by
 have hle:=hb.le
 simp only [maxLen] at hle
 refine zG (F0:=[(0,zI t),(1,v)]) func82 rfl rfl rfl (.c (.c .n)) (Mem.nil _) ?_
 refine go 5 [0] [11,6,5,4,2,1] .n (λg1=>λg2=>λg3=>λg4=>?_)
 intro a w hs;refine zB (v:=nI (zDv none (tms L))) hs (.c rfl .n) call119 (zGW L hiv v _ (hs.rd0 hb)) rfl ?_
 refine goL 3 [] [14,7,6,5,4,2,1] .n ?_
 refine ifG rfl (λc_5=>?_) (λc_5=>?_)
 ·
  refine go 4 [0,1,2] [6,5,4] (.c (.s (.s .z)) (.c (.s .z) (.c .z .n))) ⟨rfl,rfl,rfl,?_⟩
  intro a w hs;exact zdU hs rfl rfl rfl rfl .z (.s .z) (.s (.s .z)) isAgg3 isAgg3 isAgg34 (.c (.s (.s (.s .z))) (.c (.s (.s .z)) (.c (.s .z) (.c .z .n)))) ⟨rfl,rfl⟩
 exfalso;omega
theorem zPy (L:List RI) (hiv:∀ x∈L,zD3 x.v x.l.length) (v:Value) (t:Int) (w0:World) (hb:Rd w0 [] v 3 L.length (L.flatMap snV)) (hz:zDv none (tms L)=0):Calls Tryz.prog 82 #[.int .i64 t,v] w0 (zAf w0 (.tuple #[zI ((zBN L t).1),zI ((zBN L t).2.1),nI ((zBN L t).2.2)])):=by
 have hle:=hb.le
 simp only [maxLen] at hle
 refine zXO (F0:=[(0,zI t),(1,v)]) func82 rfl rfl rfl (.c (.c .n)) (Mem.nil _) λa w hs=>?_
 refine wpIn_seq_k λK1 hK2=>?_
 refine zBu (λ_ _ h=>by obtain ⟨_,_,h,_⟩:=h;cases h) (zAz rfl) ?_
 refine zJ9 (cs:=[zI t]) hs rfl rfl rfl ?_;clear hs w a;intro g3 a w hs
 refine zCy (cs:=[zI 0]) hs zeroValue3 rfl rfl ?_;clear hs w a;intro g4 a w hs
 refine zCy (cs:=[zI 0]) hs zeroValue3 rfl rfl ?_;clear hs w a;intro g5 a w hs
 refine zCy (cs:=[zI 0]) hs zeroValue34 rfl rfl ?_;clear hs w a;intro g6 a w hs
 refine wpList_nil ?_
 refine zAw (hK2 _ _ ?_)
 refine wpIn_seq_k λK7 hK8=>?_
 refine wpIn_seq_k λK9 hK10=>?_
 refine zBu (λ_ _ h=>by obtain ⟨_,_,h,_⟩:=h;cases h) (zAz rfl) ?_
 refine zGe hs rfl rfl ?_;clear hs w a;intro a w hs
 refine zB (v:=nI (zDv none (tms L))) hs (.c rfl .n) call119 (zGW L hiv v _ (hs.rd0 hb)) rfl ?_;clear hs w a;intro a w hs
 refine zEH hs rfl rfl ?_;clear hs w a;intro a w hs
 refine wpList_nil ?_
 refine zAw (hK10 _ _ ?_)
 refine wpIn_seq_k λK11 hK12=>?_
 refine zBu (λ_ _ h=>by obtain ⟨_,_,h,_⟩:=h;cases h) (zAz rfl) ?_
 refine zGe hs rfl rfl ?_;clear hs w a;intro a w hs
 refine zPQ hs rfl rfl rfl ?_;clear hs w a;intro a w hs
 refine wpList_nil ?_
 refine zAw (hK12 _ _ ?_)
 refine zTH hs rfl (λhc_=>?_) (λhc_=>?_)
 ·
  replace hc_:=zFy hc_
  replace hc_:=zAR hc_
  exfalso;omega
 replace hc_:=zFv hc_
 replace hc_:=eq_of_beq hc_
 refine wpIn_skip ?_
 refine zAw (hK8 _ _ ?_)
 refine wpIn_seq_k λK13 hK14=>?_
 refine zBu (λ_ _ h=>by obtain ⟨_,_,h,_⟩:=h;cases h) (zAz rfl) ?_
 refine zCy (cs:=[zI 0]) hs zeroValue3 rfl rfl ?_;clear hs w a;intro g15 a w hs
 refine zBp hs rfl rfl .z .z rfl sizeOf3 ?_;clear hs w a;intro a w hs
 refine wpList_nil ?_
 refine zAw (hK14 _ _ ?_)
 refine wpIn_seq_k λK16 hK17=>?_
 refine wpIn_seq_k λK18 hK19=>?_
 refine zBu (λ_ _ h=>by obtain ⟨_,_,h,_⟩:=h;cases h) (zAz rfl) ?_
 refine zGe hs rfl rfl ?_;clear hs w a;intro a w hs
 refine zK hs (.c rfl .n) call120 .n (zZh v _ (hs.rd0 hb).isSl _) rfl ?_;clear hs w a;rintro _ _ a w ⟨bx20,rfl,rfl⟩ hs
 refine wpList_nil ?_
 refine zAw (hK19 _ _ ?_)
 refine wpIn_block ?_
 replace hs:=hs.reorder (.c .z (.c (.s (.s (.s (.s .z)))) (.c (.s (.s (.s .z))) (.c (.s (.s .z)) (.c (.s .z) (.c .z .n))))))
 refine zKm hs rfl call163 (λfn D Lo W rec hrec hm=>?_)
 have hm2:=hm.reorder (X:=[blk bx20 [v] 37,blk g3 [zI t] 2,blk g4 [zI 0] 3,blk g5 [zI 0] 3,blk g6 [zI 0] 34,blk g15 [zI (-1)] 3,obj Lo (.loop (rec .ready)),obj D (.deferred (some []))]) (.c (.s (.s .z)) (.c (.s (.s .z)) (.c (.s (.s .z)) (.c (.s (.s .z)) (.c (.s (.s .z)) (.c (.s (.s .z)) (.c .z (.c .z .n))))))))
 obtain ⟨hp1,hp2,hp3⟩:=Mem.parts (A:=[blk bx20 [v] 37]) hm2
 have hy:zLV Lo L (λ(k:Nat) (X:HA)=>X=zFa [blk g3 [zI t] 2,blk g4 [zI 0] 3,blk g5 [zI 0] 3,blk g6 [zI 0] 34,blk g15 [zI (if k=L.length then -1 else ((k:Nat):Int))] 3,obj Lo (.loop (rec .ready)),obj D (.deferred (some []))]∧zLK L t L.length=zLK L t k) (λ(X:HA)=>∃ (i:Nat) (nx:Int),X=zFa [blk g3 [zI t] 2,blk g4 [zI (i:Int)] 3,blk g5 [zI nx] 3,blk g6 [zI 0] 34,blk g15 [zI nx] 3,obj Lo (.loop (zUS rec)),obj D (.deferred (some []))]∧zLK L t L.length=some (i,nx)):=by
  rintro k X W1 ⟨rfl,hpk⟩ hk hX hn
  have hX2:=(zXa hX).reorder (X:=[obj Lo (.loop (rec .ready)),blk g3 [zI t] 2,blk g4 [zI 0] 3,blk g5 [zI 0] 3,blk g6 [zI 0] 34,blk g15 [zI (if (k+1)=L.length then -1 else (((k+1):Nat):Int))] 3,obj D (.deferred (some []))]) (.c (.s (.s (.s (.s (.s .z))))) (.c .z (.c .z (.c .z (.c .z (.c .z (.c .z .n)))))))
  refine zJ1 (zRL (post:=λN=>N=[blk g3 [zI t] 2,blk g4 [zI 0] 3,blk g5 [zI 0] 3,blk g6 [zI 0] 34,blk g15 [zI (k:Int)] 3,obj D (.deferred (some []))]∧¬ (L.getD k default).tm≤t) (postJ:=λN=>N=[blk g3 [zI t] 2,blk g4 [zI (k:Int)] 3,blk g5 [zI (if (k+1)=L.length then -1 else (((k+1):Nat):Int))] 3,blk g6 [zI 0] 34,blk g15 [zI (if (k+1)=L.length then -1 else (((k+1):Nat):Int))] 3,obj D (.deferred (some []))]∧(L.getD k default).tm≤t) hs hrec rfl rfl rfl hX2 (λa w hs=>?_)) ?_
  ·
   refine wpIn_seq_k λK6 hK6=>?_
   refine zBu (λ_ _ h=>h) (zAz rfl) ?_
   refine zEH hs rfl rfl ?_;clear hs w a;intro a w hs
   refine wpList_nil ?_
   refine zAw (hK6 _ _ ?_)
   refine zBu (λ_ _ h=>h) (zAz rfl) ?_
   refine zCy (cs:=[zI 0,zI 0,.slice none 0 0]) hs zeroValue46 rfl rfl ?_;clear hs w a;intro g21 a w hs
   refine zAb hs rfl rfl .z (.z (.c (.c (.c .n)))) (zJ rfl (zJ rfl (zJ (hiv _ (zGB (by omega))).one zAe))) sizeOf46 rfl ?_;clear hs w a;intro a w hs
   refine wpList_nil ?_
   replace hs:=hs.reorder (.c (.s .z) (.c .z (.c .z (.c .z (.c .z (.c .z (.c .z (.c .z .n))))))))
   refine ⟨_,_,hs,?_⟩;clear hs;intro w3 hs
   refine wpIn_block ?_
   refine wpIn_seq_k λK1 hK1=>?_
   refine wpIn_seq_k λK2 hK2=>?_
   refine zBu (λ_ _ h=>(by rcases h with ⟨h,_⟩ | ⟨h,_⟩<;>cases h)) (zAz rfl) ?_
   refine zdO hs rfl underlying46 rfl sizeOf2 (by decide) (o:=1) rfl rfl ?_;clear hs w a;intro a w hs
   refine zLj hs rfl (.s .z) (.s .z) isAgg2 rfl ?_;clear hs w a;intro a w hs
   refine zLj hs rfl (.s (.s .z)) .z isAgg2 rfl ?_;clear hs w a;intro a w hs
   refine zKJ hs rfl rfl rfl ?_;clear hs w a;intro a w hs
   refine wpList_nil ?_
   refine zAw (hK2 _ _ ?_)
   refine zTH hs rfl (λhc_=>?_) (λhc_=>?_)
   ·
    replace hc_:=of_decide_eq_true hc_
    refine wpIn_seq_k λK3 hK3=>?_
    refine zSy (λ_ _ h=>(by rcases h with ⟨h,_⟩ | ⟨h,_⟩<;>cases h)) (zAz rfl) [.v [] (zI (k:Int)),.v [] (zI (if (k+1)=L.length then -1 else (((k+1):Nat):Int))),.s [0] [0] [0] [],.s [1] [0] [1] [],.s [] [0] [2] []] [] hs (.c (.s (.s (.s .z))) (.c (.s (.s (.s .z))) (.c (.s (.s (.s .z))) .n))) .n (by kernel_rfl) ⟨λ_ _ _ _ hm hs K=>zGe hs rfl rfl (vk K),λ_ _ _ _ hm hs K=>zZ hs rfl (hm.del (.s (.s (.s .z)))) .z isAgg3 rfl (vk K),rfl,rfl,rfl,⟨rfl,by kernel_rfl,λ_=>rfl,rfl,rfl,trivial⟩,λ_=>rfl,?_⟩
    intro a w hs;refine zAw (hK3 _ _ ?_)
    refine wpIn_ret ?_
    replace hs:=hs.drop (.c (.s .z) .n)
    replace hs:=hs.reorder (.c .z (.c .z (.c (.s (.s .z)) (.c (.s (.s .z)) (.c (.s (.s .z)) (.c .z (.c .z .n)))))))
    exact Or.inr ⟨rfl,_,⟨rfl,hc_⟩,hs.mem⟩
   replace hc_:=of_decide_eq_false hc_
   refine wpIn_skip ?_
   refine zAw (hK1 _ _ ?_)
   refine zBu (λ_ _ h=>(by rcases h with ⟨h,_⟩ | ⟨h,_⟩<;>cases h)) (zAz rfl) ?_
   refine zGe hs rfl rfl ?_;clear hs w a;intro a w hs
   refine zBp hs rfl rfl (.s (.s (.s (.s (.s (.s .z)))))) .z rfl sizeOf3 ?_;clear hs w a;intro a w hs
   refine wpList_nil ?_
   replace hs:=hs.drop (.c (.s (.s .z)) .n)
   replace hs:=hs.reorder (.c (.s .z) (.c (.s .z) (.c (.s .z) (.c (.s .z) (.c (.s .z) (.c .z (.c .z .n)))))))
   refine zbv ?_
   exact Or.inl ⟨rfl,_,⟨rfl,hc_⟩,hs.mem⟩
  rintro e W' (⟨rfl,N,⟨rfl,hc⟩,hM⟩ | ⟨rfl,N,⟨rfl,hc⟩,hM⟩)
  · refine ⟨true,rfl,_,⟨_,rfl,.inl ⟨rfl,rfl,?_⟩⟩,?_⟩
    · rw [hpk];exact zaL hc
    · rw [if_neg (by omega:¬ k=L.length)];exact (hM.reorder (.c (.s .z) (.c (.s .z) (.c (.s .z) (.c (.s .z) (.c (.s .z) (.c .z (.c .z .n)))))))).sep
  · exact ⟨false,rfl,_,⟨_,rfl,.inr ⟨rfl,k,_,rfl,by rw [hpk];exact zV4 hc⟩⟩,(hM.reorder (.c (.s .z) (.c (.s .z) (.c (.s .z) (.c (.s .z) (.c (.s .z) (.c .z (.c .z .n)))))))).sep⟩
 have hrd:Rd W (zO [zFa [blk g3 [zI t] 2,blk g4 [zI 0] 3,blk g5 [zI 0] 3,blk g6 [zI 0] 34,blk g15 [zI (-1)] 3,obj Lo (.loop (rec .ready)),obj D (.deferred (some []))]]) v 3 L.length (L.flatMap snV):=hm2.rd hb (λk hk=>by rw [zB3] at hk;exact List.mem_append_right _ hk)
 have hbf:bx20 ∉ zO [zFa [blk g3 [zI t] 2,blk g4 [zI 0] 3,blk g5 [zI 0] 3,blk g6 [zI 0] 34,blk g15 [zI (-1)] 3,obj Lo (.loop (rec .ready)),obj D (.deferred (some []))]]:=λh=>(List.nodup_append.1 (by simpa only [zAr] using hp3)).2.2 bx20 (by simp [zO,blk]) bx20 h rfl
 have hnd2:(zO [zFa [blk g3 [zI t] 2,blk g4 [zI 0] 3,blk g5 [zI 0] 3,blk g6 [zI 0] 34,blk g15 [zI (-1)] 3,obj Lo (.loop (rec .ready)),obj D (.deferred (some []))]]).Nodup:=(List.nodup_append.1 (by simpa only [zAr] using hp3)).2.1
 refine (zV5 Lo bx20 L hiv v (λ(k:Nat) (X:HA)=>X=zFa [blk g3 [zI t] 2,blk g4 [zI 0] 3,blk g5 [zI 0] 3,blk g6 [zI 0] 34,blk g15 [zI (if k=L.length then -1 else ((k:Nat):Int))] 3,obj Lo (.loop (rec .ready)),obj D (.deferred (some []))]∧zLK L t L.length=zLK L t k) (λ(X:HA)=>∃ (i:Nat) (nx:Int),X=zFa [blk g3 [zI t] 2,blk g4 [zI (i:Int)] 3,blk g5 [zI nx] 3,blk g6 [zI 0] 34,blk g15 [zI nx] 3,obj Lo (.loop (zUS rec)),obj D (.deferred (some []))]∧zLK L t L.length=some (i,nx)) _ W (hp1 _ (by simp)) hbf hrd hp2 hnd2 ⟨by rw [if_pos rfl],rfl⟩ hy).mono ?_
 rintro e W' ⟨u,N,rfl,⟨X',rfl,hIJ⟩,hM⟩
 rw [zB3] at hM
 rcases hIJ with ⟨rfl,hpk⟩ | ⟨i,nx,rfl,hpk⟩
 ·
  have hM3:=hm2.frame (.c (.s .z) (.c (.s .z) (.c (.s .z) (.c (.s .z) (.c (.s .z) (.c (.s .z) (.c (.s .z) .n))))))) (Mem.unsep (A:=[]) hM)
  refine ⟨⟨_,rfl⟩,.inl ⟨[blk g3 [zI t] 2,blk g4 [zI 0] 3,blk g5 [zI 0] 3,blk g6 [zI 0] 34,blk g15 [zI (if 0=L.length then -1 else ((0:Nat):Int))] 3,blk bx20 [v] 37],hM3.reorder (.c (.s (.s (.s (.s (.s .z))))) (.c (.s (.s (.s (.s (.s .z))))) (.c .z (.c .z (.c .z (.c .z (.c .z (.c .z .n)))))))),λW2 hM4=>?_⟩⟩
  rw [zPI _ hs.dfr]
  refine zbv ?_
  refine zAw (hK17 _ _ ?_)
  refine wpIn_seq_k λK9 hK9=>?_
  have hac:({ tmps:=a.tmps,defers:=[{ target:=.collected D,args:=#[] }] }:Act)=wDf [{ target:=.collected D,args:=#[] }] a:=by unfold wDf;rw [hs.dfr];rfl
  rw [hac]
  refine zBu (λ_ _ h=>by obtain ⟨_,_,h,_⟩:=h;cases h) (zAz rfl) (zOv (λ_ _ h=>by obtain ⟨_,_,h,_⟩:=h;cases h) _ _ _ ?_)
  refine (?_:∀ a w,St 27 [(17,.func (.func 163) #[] #[pt bx20 0]),(16,v),(8,pt g15 0),(14,.bool (!((((zDv none (tms L):Nat):Int):Int)==0))),(13,nI (zDv none (tms L))),(7,nI (zDv none (tms L))),(12,nI (zDv none (tms L))),(11,v),(6,pt g6 0),(5,pt g5 0),(4,pt g4 0),(2,pt g3 0),(0,zI t),(1,v)] w0 [] [obj Lo (.loop (rec .exhausted)),obj D (.deferred (some [])),blk g3 [zI t] 2,blk g4 [zI 0] 3,blk g5 [zI 0] 3,blk g6 [zI 0] 34,blk g15 [zI (if 0=L.length then -1 else ((0:Nat):Int))] 3,blk bx20 [v] 37] a w→wpList _ _ _ _ a w) a W2 (hs.memTo hM4)
  intro a w hs
  refine zBp hs rfl rfl (.s (.s (.s .z))) .z rfl sizeOf3 ?_;clear hs w a;intro a w hs
  refine zBp hs rfl rfl (.s (.s (.s (.s .z)))) .z rfl sizeOf3 ?_;clear hs w a;intro a w hs
  refine zBp hs rfl rfl (.s (.s (.s (.s (.s .z))))) .z rfl sizeOf34 ?_;clear hs w a;intro a w hs
  refine wpList_nil ?_
  refine zAw (hK9 _ _ ?_)
  refine wpIn_ret ?_
  have hM4:=hs.mem
  show bodyPostM _ _ _ _ _ .ret { tmps:=a.tmps,defers:=a.defers++[{ target:=.collected D,args:=#[] }] } _
  rw [hs.dfr]
  have hM5:=hM4.frame (X:=[obj D (.deferred (some []))]) (.c (.s (.s (.s (.s .z)))) .n) (zDi (o':=.deferred none) (hM4.del (.s (.s (.s (.s .z))))))
  refine zXY (v:=.tuple #[zI 0,zI 0,zI 5]) (zLc rfl (hs.agr 4 _ rfl) (hs.agr 5 _ rfl) (hs.agr 6 _ rfl) (hM5.del (.s (.s (.s .z)))) (hM5.del (.s (.s .z))) (hM5.del (.s .z)) isAgg3 isAgg3 isAgg34) (hM4.del (.s (.s (.s (.s .z))))) ?_
  exact ⟨_,[],rfl,⟨by rw [zYH (by omega) hpk];rfl,rfl⟩,hM5.drop (.c .z (.c .z (.c .z (.c .z (.c .z (.c .z (.c .z (.c .z .n))))))))⟩
 ·
  have hM3:=hm2.frame (.c (.s .z) (.c (.s .z) (.c (.s .z) (.c (.s .z) (.c (.s .z) (.c (.s .z) (.c (.s .z) .n))))))) (Mem.unsep (A:=[]) hM)
  refine ⟨⟨_,rfl⟩,.inr ⟨[blk g3 [zI t] 2,blk g4 [zI (i:Int)] 3,blk g5 [zI nx] 3,blk g6 [zI 0] 34,blk g15 [zI nx] 3,blk bx20 [v] 37],hM3.reorder (.c (.s (.s (.s (.s (.s .z))))) (.c (.s (.s (.s (.s (.s .z))))) (.c .z (.c .z (.c .z (.c .z (.c .z (.c .z .n)))))))),λW2 hM4=>?_⟩⟩
  rw [zPI _ hs.dfr]
  show bodyPostM _ _ _ _ _ .ret { tmps:=a.tmps,defers:=[{ target:=.collected D,args:=#[] }] } _
  have hM5:=hM4.frame (X:=[obj D (.deferred (some []))]) (.c (.s .z) .n) (zDi (o':=.deferred none) (hM4.del (.s .z)))
  refine zXY (v:=.tuple #[zI (i:Int),zI nx,zI 0]) (zLc rfl (hs.agr 4 _ rfl) (hs.agr 5 _ rfl) (hs.agr 6 _ rfl) (hM5.del (.s (.s (.s .z)))) (hM5.del (.s (.s (.s (.s .z))))) (hM5.del (.s (.s (.s (.s (.s .z)))))) isAgg3 isAgg3 isAgg34) (hM4.del (.s .z)) ?_
  exact ⟨_,[],rfl,⟨by rw [zZD (by omega) hpk];rfl,rfl⟩,hM5.drop (.c .z (.c .z (.c .z (.c .z (.c .z (.c .z (.c .z (.c .z .n))))))))⟩
theorem zW9 (L:List RI) (hiv:∀ x∈L,zD3 x.v x.l.length) (v:Value) (t:Int) (w0:World) (hb:Rd w0 [] v 3 L.length (L.flatMap snV)):Calls Tryz.prog 82 #[.int .i64 t,v] w0 (zAf w0 (.tuple #[zI ((zBN L t).1),zI ((zBN L t).2.1),nI ((zBN L t).2.2)])):=by
 by_cases hz:zDv none (tms L)=0
 · exact zPy L hiv v t w0 hb hz
 · rw [zaa (by omega)];exact zSg L hiv v t w0 hb hz
theorem za7 (A B:BitVec 16) (w0:World):Calls Tryz.prog 55 #[.int .u16 (((A).toNat:Nat):Int),.int .u16 (((B).toNat:Nat):Int)] w0 (zAf w0 (zI (aTo A B))):=by
 refine zG (F0:=[(0,.int .u16 (((A).toNat:Nat):Int)),(1,.int .u16 (((B).toNat:Nat):Int))]) func55 rfl rfl rfl (.c (.c .n)) (Mem.nil _) ?_
 refine go 3 [] [6,5] .n ?_
 intro a w hs;refine zJ3 (X:=B) (Y:=A) hs rfl rfl rfl rfl rfl ?_
 intro a w hs;refine zLH (X:=B-A) hs rfl rfl underlying117 underlying163 rfl ?_
 intro a w hs;refine zCB hs rfl (zZw (B-A)) underlying163 underlying3 rfl ?_
 refine goL 1 [] [4] .n ?_
 intro a w hs;exact fin hs rfl rfl ⟨rfl,rfl⟩
theorem zVh (A B:BitVec 16) (w0:World):Calls Tryz.prog 32 #[.int .u16 (((A).toNat:Nat):Int),.int .u16 (((B).toNat:Nat):Int)] w0 (zAf w0 (zI (aTo A B))):=by
 refine zG (F0:=[(0,.int .u16 (((A).toNat:Nat):Int)),(1,.int .u16 (((B).toNat:Nat):Int))]) func32 rfl rfl rfl (.c (.c .n)) (Mem.nil _) ?_
 refine go 3 [] [6,5] .n ?_
 intro a w hs;refine zB (v:=zI (aTo A B)) hs (.c rfl (.c rfl .n)) call55 (za7 A B _) rfl ?_
 refine goL 1 [] [4] .n ?_
 intro a w hs;exact fin hs rfl rfl ⟨rfl,rfl⟩
theorem zcA (A:BitVec 16) (x:Int) (w0:World):Calls Tryz.prog 198 #[.int .u16 (((A).toNat:Nat):Int),zI x] w0 (zAf w0 (.int .u16 (((aBy A x).toNat:Nat):Int))):=by
 refine zG (F0:=[(0,.int .u16 (((A).toNat:Nat):Int)),(1,zI x)]) func198 rfl rfl rfl (.c (.c .n)) (Mem.nil _) ?_
 refine go 3 [] [6,5] .n ?_
 intro a w hs;refine zSA hs rfl underlying3 underlying117 rfl ?_
 intro a w hs;refine zJk (X:=A) (Y:=BitVec.ofInt 16 x) hs rfl rfl rfl rfl rfl ?_
 refine goL 1 [] [4] .n ?_
 intro a w hs;exact fin hs rfl rfl ⟨rfl,rfl⟩
theorem zW6 (A:BitVec 16) (x:Int) (w0:World):Calls Tryz.prog 167 #[.int .u16 (((A).toNat:Nat):Int),zI x] w0 (zAf w0 (.int .u16 (((aBy A x).toNat:Nat):Int))):=by
 refine zG (F0:=[(0,.int .u16 (((A).toNat:Nat):Int)),(1,zI x)]) func167 rfl rfl rfl (.c (.c .n)) (Mem.nil _) ?_
 refine go 3 [] [6,5] .n ?_
 intro a w hs;refine zB (v:=.int .u16 (((aBy A x).toNat:Nat):Int)) hs (.c rfl (.c rfl .n)) call198 (zcA A x _) rfl ?_
 refine goL 1 [] [4] .n ?_
 intro a w hs;exact fin hs rfl rfl ⟨rfl,rfl⟩
theorem zWf (A B:BitVec 16) (n d:Int) (w0:World):Calls Tryz.prog 126 #[.int .u16 (((A).toNat:Nat):Int),.int .u16 (((B).toNat:Nat):Int),zI n,zI d] w0 (zAf w0 (.tuple #[.int .u16 (((bif zBq n d==0 then zaX A B n d else 0#16).toNat:Nat):Int),nI (zBq n d)])):=by
 have hr:=zYN A B
 refine zG (F0:=[(0,.int .u16 (((A).toNat:Nat):Int)),(1,.int .u16 (((B).toNat:Nat):Int)),(2,zI n),(3,zI d)]) func126 rfl rfl rfl (.c (.c (.c (.c .n)))) (Mem.nil _) ?_
 refine go 4 [] [14,13,0,2,3] .n ?_
 intro a w hs;refine zB (v:=zI (aTo A B)) hs (.c rfl (.c rfl .n)) call32 (zVh A B _) rfl ?_
 refine goL 2 [] [17,16,15,0] .n ?_
 intro a w hs;refine zB (v:=.tuple #[zI (bif zBq n d==0 then zDF 0 (aTo A B) n d else 0),nI (zBq n d)]) hs (.c rfl (.c rfl (.c rfl (.c rfl .n)))) call166 (zPa 0 (aTo A B) n d (by omega) (by omega) _) rfl ?_
 refine goL 7 [] [22,11,10,0] .n ?_
 refine ifG rfl (λc_1=>?_) (λc_1=>?_)
 ·
  have hbad:=zIs (by assumption)
  refine go 3 [] [9,8] .n ?_
  intro a w hs;exact zBR hs rfl rfl rfl ⟨zaG hbad _,rfl⟩
 have hc0:=zC9 (by assumption)
 refine go 2 [] [25,24] .n ?_
 intro a w hs;refine zB (v:=.int .u16 (((aBy A (bif zBq n d==0 then zDF 0 (aTo A B) n d else 0)).toNat:Nat):Int)) hs (.c rfl (.c rfl .n)) call167 (zW6 A (bif zBq n d==0 then zDF 0 (aTo A B) n d else 0) _) rfl ?_
 refine goL 2 [] [9,8] .n ?_
 intro a w hs;exact zBR hs rfl rfl rfl ⟨zWW hc0 (by rw [hc0];rfl),rfl⟩
theorem zSn (f:FuncId) (x1 x2 x3:Int) (y1 y2 y3:Int) (z1 z2 z3:Int) (hcl:∀ args w,(callFunc f args).run Tryz.prog w = .ok (.enter f args) w) (hf1:∀ w0,Calls Tryz.prog f #[zI x1,zI y1] w0 (zAf w0 (zI z1))) (hf2:∀ w0,Calls Tryz.prog f #[zI x2,zI y2] w0 (zAf w0 (zI z2))) (hf3:∀ w0,Calls Tryz.prog f #[zI x3,zI y3] w0 (zAf w0 (zI z3))) (w0:World):Calls Tryz.prog 195 #[.agg #[zI x1,zI x2,zI x3],.agg #[zI y1,zI y2,zI y3],.func (.func f) #[] #[]] w0 (zAf w0 (.agg #[zI z1,zI z2,zI z3])):=by
 refine zG (F0:=[(0,.agg #[zI x1,zI x2,zI x3]),(1,.agg #[zI y1,zI y2,zI y3]),(2,.func (.func f) #[] #[])]) func195 rfl rfl rfl (.c (.c (.c .n))) (Mem.nil _) ?_
 refine go 5 [0,0] [9,7,6,4,3,2] .n (λg1=>λg2=>λg3=>λg4=>?_)
 intro a w hs;refine zCo 3 ?_
 revert a w hs
 refine go 4 [] [8,9,7,6,4,3,2] .n ?_
 intro a w hs
 refine zR [.p [] [],.p [] [],.p [] [],.p [2] [],.p [3] [0],.p [] [],.p [5] [],.p [6] [1],.v [7,4,1] (zI z1),.p [0] [],.s [9,8] [0] [0] []] [] hs (.c .z .n) (.c (.s (.s .z)) (.c (.s .z) .n)) (by kernel_rfl) ⟨rfl,rfl,λ_ _ _ _ hm hs K=>zBj (us:=[]) (v:=zI z1) hs rfl (.c rfl (.c rfl .n)) rfl hcl (hf1 _) rfl (vk K),rfl,⟨rfl,by kernel_rfl,λ_=>rfl,rfl,rfl,trivial⟩,λ_=>rfl,?_⟩
 refine goE 2 [] [9,7,6,4,3,2] .n ⟨by decide,?_⟩
 intro a w hs;refine zAT ?_
 revert a w hs
 refine go 4 [] [8,9,7,6,4,3,2] .n ?_
 intro a w hs
 refine zR [.p [] [],.p [] [],.p [] [],.p [2] [],.p [3] [0],.p [] [],.p [5] [],.p [6] [1],.v [7,4,1] (zI z2),.p [0] [],.s [9,8] [0] [0] []] [] hs (.c (.s (.s (.s .z))) .n) (.c (.s (.s .z)) (.c (.s .z) .n)) (by kernel_rfl) ⟨rfl,rfl,λ_ _ _ _ hm hs K=>zBj (us:=[]) (v:=zI z2) hs rfl (.c rfl (.c rfl .n)) rfl hcl (hf2 _) rfl (vk K),rfl,⟨rfl,by kernel_rfl,λ_=>rfl,rfl,rfl,trivial⟩,λ_=>rfl,?_⟩
 refine goE 2 [] [9,7,6,4,3,2] .n ⟨by decide,?_⟩
 intro a w hs;refine zAT ?_
 revert a w hs
 refine go 4 [] [8,9,7,6,4,3,2] .n ?_
 intro a w hs
 refine zR [.p [] [],.p [] [],.p [] [],.p [2] [],.p [3] [0],.p [] [],.p [5] [],.p [6] [1],.v [7,4,1] (zI z3),.p [0] [],.s [9,8] [0] [0] []] [] hs (.c (.s (.s (.s .z))) .n) (.c (.s (.s .z)) (.c (.s .z) .n)) (by kernel_rfl) ⟨rfl,rfl,λ_ _ _ _ hm hs K=>zBj (us:=[]) (v:=zI z3) hs rfl (.c rfl (.c rfl .n)) rfl hcl (hf3 _) rfl (vk K),rfl,⟨rfl,by kernel_rfl,λ_=>rfl,rfl,rfl,trivial⟩,λ_=>rfl,?_⟩
 refine goE 2 [] [9,7,6,4,3,2] .n ⟨by decide,?_⟩
 intro a w hs;refine zAT ?_
 revert a w hs
 refine go 4 [0,1] [6] (.c (.s (.s (.s .z))) (.c .z .n)) ⟨rfl,rfl,?_⟩
 intro a w hs;exact zM6 hs rfl rfl (.s .z) (.z (.c (.c (.c .n)))) isAgg40 sizeOf40 (.c (.s (.s (.s .z))) (.c (.s (.s .z)) (.c (.s .z) (.c .z .n)))) ⟨rfl,rfl⟩
theorem zYU (x1 x2 x3 y1 y2 y3:Int) (hx1 : -9223372036854775808≤x1∧x1≤9223372036854775807) (hx2 : -9223372036854775808≤x2∧x2≤9223372036854775807) (hx3 : -9223372036854775808≤x3∧x3≤9223372036854775807) (hy1 : -9223372036854775808≤y1∧y1≤9223372036854775807) (hy2 : -9223372036854775808≤y2∧y2≤9223372036854775807) (hy3 : -9223372036854775808≤y3∧y3≤9223372036854775807) (w0:World):Calls Tryz.prog 164 #[.agg #[zI x1,zI x2,zI x3],.agg #[zI y1,zI y2,zI y3]] w0 (zAf w0 (.agg #[zI (zDD x1 y1),zI (zDD x2 y2),zI (zDD x3 y3)])):=by
 refine zG (F0:=[(0,.agg #[zI x1,zI x2,zI x3]),(1,.agg #[zI y1,zI y2,zI y3])]) func164 rfl rfl rfl (.c (.c .n)) (Mem.nil _) ?_
 refine go 5 [0,0,2,1] [6,5,4] .n (λg1=>λg2=>λg3=>⟨rfl,rfl,?_⟩)
 intro a w hs;refine zB (v:=.agg #[zI (zDD x1 y1),zI (zDD x2 y2),zI (zDD x3 y3)]) hs (.c rfl (.c rfl (.c rfl .n))) call195 (zSn 118 x1 x2 x3 y1 y2 y3 (zDD x1 y1) (zDD x2 y2) (zDD x3 y3) call118 (zFQ _ _ (by omega) (by omega)) (zFQ _ _ (by omega) (by omega)) (zFQ _ _ (by omega) (by omega)) _) rfl ?_
 refine goL 1 [0] [4] (.c .z .n) ⟨rfl,?_⟩
 intro a w hs;exact zM6 hs rfl rfl .z (.z (.c (.c (.c .n)))) isAgg40 sizeOf40 (.c (.s (.s .z)) (.c (.s .z) (.c .z .n))) ⟨rfl,rfl⟩
theorem zTW (x1 x2 x3 k:Int) (hx1 : -9223372036854775808≤x1∧x1≤9223372036854775807) (hx2 : -9223372036854775808≤x2∧x2≤9223372036854775807) (hx3 : -9223372036854775808≤x3∧x3≤9223372036854775807) (hk : -9223372036854775808≤k∧k≤9223372036854775807) (w0:World):Calls Tryz.prog 165 #[.agg #[zI x1,zI x2,zI x3],zI k] w0 (zAf w0 (.agg #[zI (zA0 x1 k),zI (zA0 x2 k),zI (zA0 x3 k)])):=by
 refine zG (F0:=[(0,.agg #[zI x1,zI x2,zI x3]),(1,zI k)]) func165 rfl rfl rfl (.c (.c .n)) (Mem.nil _) ?_
 refine go 7 [0,1] [9,5,4] .n (λg1=>λg2=>⟨rfl,?_⟩)
 intro a w hs;refine zB (v:=.agg #[zI (zA0 x1 k),zI (zA0 x2 k),zI (zA0 x3 k)]) hs (.c rfl (.c rfl (.c rfl .n))) call195 (zSn 155 x1 x2 x3 k k k (zA0 x1 k) (zA0 x2 k) (zA0 x3 k) call155 (zDW _ _ (by omega) (by omega)) (zDW _ _ (by omega) (by omega)) (zDW _ _ (by omega) (by omega)) _) rfl ?_
 refine goL 1 [0] [4] (.c .z .n) ⟨rfl,?_⟩
 intro a w hs;exact zM6 hs rfl rfl .z (.z (.c (.c (.c .n)))) isAgg40 sizeOf40 (.c (.s .z) (.c .z .n)) ⟨rfl,rfl⟩
theorem zbO (x1 x2 x3 y1 y2 y3 k:Int) (hx1 : -9223372036854775808≤x1∧x1≤9223372036854775807) (hx2 : -9223372036854775808≤x2∧x2≤9223372036854775807) (hx3 : -9223372036854775808≤x3∧x3≤9223372036854775807) (hy1 : -9223372036854775808≤y1∧y1≤9223372036854775807) (hy2 : -9223372036854775808≤y2∧y2≤9223372036854775807) (hy3 : -9223372036854775808≤y3∧y3≤9223372036854775807) (hk : -9223372036854775808≤k∧k≤9223372036854775807) (w0:World):Calls Tryz.prog 123 #[.agg #[zI x1,zI x2,zI x3],.agg #[zI y1,zI y2,zI y3],zI k] w0 (zAf w0 (.agg #[zI (zDD x1 (zA0 y1 k)),zI (zDD x2 (zA0 y2 k)),zI (zDD x3 (zA0 y3 k))])):=by
 refine zG (F0:=[(0,.agg #[zI x1,zI x2,zI x3]),(1,.agg #[zI y1,zI y2,zI y3]),(2,zI k)]) func123 rfl rfl rfl (.c (.c (.c .n))) (Mem.nil _) ?_
 refine go 3 [0,0] [6,4,3,2] .n (λg1=>λg2=>λg3=>?_)
 intro a w hs
 refine zR [.p [] [0],.p [] [1],.p [] [],.v [2,1] (.agg #[zI (zA0 y1 k),zI (zA0 y2 k),zI (zA0 y3 k)]),.v [3,0] (.agg #[zI (zDD x1 (zA0 y1 k)),zI (zDD x2 (zA0 y2 k)),zI (zDD x3 (zA0 y3 k))]),.s [4] [0] [0] []] [] hs (.c .z .n) (.c (.s .z) (.c .z .n)) (by kernel_rfl) ⟨rfl,rfl,λ_ _ _ _ hm hs K=>zB (v:=.agg #[zI (zA0 y1 k),zI (zA0 y2 k),zI (zA0 y3 k)]) hs (.c rfl (.c rfl .n)) call165 (zTW y1 y2 y3 k (by omega) (by omega) (by omega) (by omega) _) rfl (vk K),λ_ _ _ _ hm hs K=>zB (v:=.agg #[zI (zDD x1 (zA0 y1 k)),zI (zDD x2 (zA0 y2 k)),zI (zDD x3 (zA0 y3 k))]) hs (.c rfl (.c rfl .n)) call164 (zYU x1 x2 x3 (zA0 y1 k) (zA0 y2 k) (zA0 y3 k) (by omega) (by omega) (by omega) (zCz _ _) (zCz _ _) (zCz _ _) _) rfl (vk K),rfl,⟨rfl,by kernel_rfl,λ_=>rfl,rfl,rfl,trivial⟩,λ_=>rfl,?_⟩
 refine goE 0 [] [6] .n ?_
 intro a w hs;exact zM6 hs rfl rfl (.s (.s .z)) (.z (.c (.c (.c .n)))) isAgg40 sizeOf40 (.c (.s (.s .z)) (.c (.s .z) (.c .z .n))) ⟨rfl,rfl⟩
theorem zJE (x y n d:Int) (hx : -9223372036854775808≤x∧x≤9223372036854775807) (hy : -9223372036854775808≤y∧y≤9223372036854775807) (u1 u2:Nat) (w0:World) (hu1:(blk u1 [.int .i64 n] 2).p w0) (hu2:(blk u2 [.int .i64 d] 2).p w0):Calls Tryz.prog 258 #[zI x,zI y,pt u1 0,pt u2 0] w0 (zAf w0 (zI (bif zBq n d==0 then zDF x y n d else 0))):=by
 refine zG (F0:=[(0,zI x),(1,zI y),(2,pt u1 0),(3,pt u2 0)]) func258 rfl rfl rfl (.c (.c (.c (.c .n)))) (Mem.nil _) ?_
 refine go 3 [] [11,10,2,3] .n ?_
 intro a w hs;refine zZ hs rfl (hs.mem.keep hu1 (by simp [zO,blk])) .z isAgg2 rfl ?_
 intro a w hs;refine zZ hs rfl (hs.mem.keep hu2 (by simp [zO,blk])) .z isAgg2 rfl ?_
 intro a w hs;refine zB (v:=.tuple #[zI (bif zBq n d==0 then zDF x y n d else 0),nI (zBq n d)]) hs (.c rfl (.c rfl (.c rfl (.c rfl .n)))) call166 (zPa x y n d (by omega) (by omega) _) rfl ?_
 refine goL 7 [] [6] .n ?_
 intro a w hs;exact fin hs rfl rfl ⟨rfl,rfl⟩
theorem zWe (f:FuncId) (x1 x2 x3 y1 y2 y3 z1 z2 z3 n d:Int) (u1 u2:Nat) (hcl:∀ args w,(callFunc f args).run Tryz.prog w = .ok (.enter f args) w) (hf1:∀ w0,(blk u1 [.int .i64 n] 2).p w0→(blk u2 [.int .i64 d] 2).p w0→Calls Tryz.prog f #[zI x1,zI y1,pt u1 0,pt u2 0] w0 (zAf w0 (zI z1))) (hf2:∀ w0,(blk u1 [.int .i64 n] 2).p w0→(blk u2 [.int .i64 d] 2).p w0→Calls Tryz.prog f #[zI x2,zI y2,pt u1 0,pt u2 0] w0 (zAf w0 (zI z2))) (hf3:∀ w0,(blk u1 [.int .i64 n] 2).p w0→(blk u2 [.int .i64 d] 2).p w0→Calls Tryz.prog f #[zI x3,zI y3,pt u1 0,pt u2 0] w0 (zAf w0 (zI z3))) (w0:World) (hu1:(blk u1 [.int .i64 n] 2).p w0) (hu2:(blk u2 [.int .i64 d] 2).p w0):Calls Tryz.prog 195 #[.agg #[zI x1,zI x2,zI x3],.agg #[zI y1,zI y2,zI y3],.func (.func f) #[] #[pt u1 0,pt u2 0]] w0 (zAf w0 (.agg #[zI z1,zI z2,zI z3])):=by
 refine zG (F0:=[(0,.agg #[zI x1,zI x2,zI x3]),(1,.agg #[zI y1,zI y2,zI y3]),(2,.func (.func f) #[] #[pt u1 0,pt u2 0])]) func195 rfl rfl rfl (.c (.c (.c .n))) (Mem.nil _) ?_
 refine go 5 [0,0] [9,7,6,4,3,2] .n (λg1=>λg2=>λg3=>λg4=>?_)
 intro a w hs;refine zCo 3 ?_
 revert a w hs
 refine go 4 [] [8,9,7,6,4,3,2] .n ?_
 intro a w hs
 refine zR [.p [] [],.p [] [],.p [] [],.p [2] [],.p [3] [0],.p [] [],.p [5] [],.p [6] [1],.v [7,4,1] (zI z1),.p [0] [],.s [9,8] [0] [0] []] [] hs (.c .z .n) (.c (.s (.s .z)) (.c (.s .z) .n)) (by kernel_rfl) ⟨rfl,rfl,λ_ _ _ _ hm hs K=>zBj (us:=[pt u1 0,pt u2 0]) (v:=zI z1) hs rfl (.c rfl (.c rfl .n)) rfl hcl (hf1 _ (hm.keep hu1 (by simp [zO,blk])) (hm.keep hu2 (by simp [zO,blk]))) rfl (vk K),rfl,⟨rfl,by kernel_rfl,λ_=>rfl,rfl,rfl,trivial⟩,λ_=>rfl,?_⟩
 refine goE 2 [] [9,7,6,4,3,2] .n ⟨by decide,?_⟩
 intro a w hs;refine zAT ?_
 revert a w hs
 refine go 4 [] [8,9,7,6,4,3,2] .n ?_
 intro a w hs
 refine zR [.p [] [],.p [] [],.p [] [],.p [2] [],.p [3] [0],.p [] [],.p [5] [],.p [6] [1],.v [7,4,1] (zI z2),.p [0] [],.s [9,8] [0] [0] []] [] hs (.c (.s (.s (.s .z))) .n) (.c (.s (.s .z)) (.c (.s .z) .n)) (by kernel_rfl) ⟨rfl,rfl,λ_ _ _ _ hm hs K=>zBj (us:=[pt u1 0,pt u2 0]) (v:=zI z2) hs rfl (.c rfl (.c rfl .n)) rfl hcl (hf2 _ (hm.keep hu1 (by simp [zO,blk])) (hm.keep hu2 (by simp [zO,blk]))) rfl (vk K),rfl,⟨rfl,by kernel_rfl,λ_=>rfl,rfl,rfl,trivial⟩,λ_=>rfl,?_⟩
 refine goE 2 [] [9,7,6,4,3,2] .n ⟨by decide,?_⟩
 intro a w hs;refine zAT ?_
 revert a w hs
 refine go 4 [] [8,9,7,6,4,3,2] .n ?_
 intro a w hs
 refine zR [.p [] [],.p [] [],.p [] [],.p [2] [],.p [3] [0],.p [] [],.p [5] [],.p [6] [1],.v [7,4,1] (zI z3),.p [0] [],.s [9,8] [0] [0] []] [] hs (.c (.s (.s (.s .z))) .n) (.c (.s (.s .z)) (.c (.s .z) .n)) (by kernel_rfl) ⟨rfl,rfl,λ_ _ _ _ hm hs K=>zBj (us:=[pt u1 0,pt u2 0]) (v:=zI z3) hs rfl (.c rfl (.c rfl .n)) rfl hcl (hf3 _ (hm.keep hu1 (by simp [zO,blk])) (hm.keep hu2 (by simp [zO,blk]))) rfl (vk K),rfl,⟨rfl,by kernel_rfl,λ_=>rfl,rfl,rfl,trivial⟩,λ_=>rfl,?_⟩
 refine goE 2 [] [9,7,6,4,3,2] .n ⟨by decide,?_⟩
 intro a w hs;refine zAT ?_
 revert a w hs
 refine go 4 [0,1] [6] (.c (.s (.s (.s .z))) (.c .z .n)) ⟨rfl,rfl,?_⟩
 intro a w hs;exact zM6 hs rfl rfl (.s .z) (.z (.c (.c (.c .n)))) isAgg40 sizeOf40 (.c (.s (.s (.s .z))) (.c (.s (.s .z)) (.c (.s .z) (.c .z .n)))) ⟨rfl,rfl⟩
theorem zUt (x1 x2 x3 y1 y2 y3 n d:Int) (hx1 : -9223372036854775808≤x1∧x1≤9223372036854775807) (hx2 : -9223372036854775808≤x2∧x2≤9223372036854775807) (hx3 : -9223372036854775808≤x3∧x3≤9223372036854775807) (hy1 : -9223372036854775808≤y1∧y1≤9223372036854775807) (hy2 : -9223372036854775808≤y2∧y2≤9223372036854775807) (hy3 : -9223372036854775808≤y3∧y3≤9223372036854775807) (w0:World):Calls Tryz.prog 257 #[.agg #[zI x1,zI x2,zI x3],.agg #[zI y1,zI y2,zI y3],zI n,zI d] w0 (zAf w0 (.tuple #[.agg #[zI (bif zBq n d==0 then zDF x1 y1 n d else 0),zI (bif zBq n d==0 then zDF x2 y2 n d else 0),zI (bif zBq n d==0 then zDF x3 y3 n d else 0)],nI (zBq n d)])):=by
 refine zG (F0:=[(0,.agg #[zI x1,zI x2,zI x3]),(1,.agg #[zI y1,zI y2,zI y3]),(2,zI n),(3,zI d)]) func257 rfl rfl rfl (.c (.c (.c (.c .n)))) (Mem.nil _) ?_
 refine go 8 [0,0,0,0,2,1] [14,13,8,7,6,5,4] .n (λg1=>λg2=>λg3=>λg4=>λg5=>⟨rfl,rfl,?_⟩)
 intro a w hs;refine zB (v:=.tuple #[zI (bif zBq n d==0 then zBx n d else 0),nI (zBq n d)]) hs (.c rfl (.c rfl .n)) call252 (zPn n d _) rfl ?_
 refine goL 7 [] [19,11,8,7,6,5,4] .n ?_
 refine ifG rfl (λc_6=>?_) (λc_6=>?_)
 ·
  have hbad:=zIs (by assumption)
  refine go 4 [0] [9,8] (.c .z .n) ⟨rfl,?_⟩
  intro a w hs;exact zBQ hs rfl rfl rfl .z (.z (.c (.c (.c .n)))) isAgg40 sizeOf40 (.c (.s (.s (.s (.s .z)))) (.c (.s (.s (.s .z))) (.c (.s (.s .z)) (.c (.s .z) (.c .z .n))))) ⟨zS9 hbad _ _ _,rfl⟩
 have hc0:=zC9 (by assumption)
 refine go 3 [0,1] [24,23,22,8] (.c (.s (.s (.s (.s .z)))) (.c (.s (.s (.s .z))) .n)) ⟨rfl,rfl,?_⟩
 intro a w hs;refine zB (v:=.agg #[zI (bif zBq n d==0 then zDF x1 y1 n d else 0),zI (bif zBq n d==0 then zDF x2 y2 n d else 0),zI (bif zBq n d==0 then zDF x3 y3 n d else 0)]) hs (.c rfl (.c rfl (.c rfl .n))) call195 (zWe 258 x1 x2 x3 y1 y2 y3 (bif zBq n d==0 then zDF x1 y1 n d else 0) (bif zBq n d==0 then zDF x2 y2 n d else 0) (bif zBq n d==0 then zDF x3 y3 n d else 0) n d g3 g4 call258 (λw h1 h2=>zJE _ _ _ _ (by omega) (by omega) _ _ w h1 h2) (λw h1 h2=>zJE _ _ _ _ (by omega) (by omega) _ _ w h1 h2) (λw h1 h2=>zJE _ _ _ _ (by omega) (by omega) _ _ w h1 h2) _ (hs.mem.del (.s (.s (.s (.s .z))))) (hs.mem.del (.s (.s (.s .z))))) rfl ?_
 refine goL 2 [0] [9,8] (.c (.s (.s .z)) .n) ⟨rfl,?_⟩
 intro a w hs;exact zBQ hs rfl rfl rfl .z (.z (.c (.c (.c .n)))) isAgg40 sizeOf40 (.c (.s (.s (.s (.s .z)))) (.c (.s (.s (.s .z))) (.c (.s (.s .z)) (.c (.s .z) (.c .z .n))))) ⟨by rw [hc0];rfl,rfl⟩
theorem zbh (t:Int) (h:0≤t∧t≤65536) (w0:World):Calls Tryz.prog 253 #[zI t] w0 (zAf w0 (.agg #[zI (cW1 t),zI (cW2 t),zI (cW3 t)])):=by
 refine zG (F0:=[(0,zI t)]) func253 rfl rfl rfl (.c .n) (Mem.nil _) ?_
 refine go 3 [] [6,5,2,0] .n (λg1=>?_)
 intro a w hs;refine zB (v:=zI (zA0 t t)) hs (.c rfl (.c rfl .n)) call155 (zDW t t (by omega) (by omega) _) rfl ?_
 have h2:=zIC h h
 have h3:=zIC h2 h
 refine goL 3 [] [9,8,3,2,0] .n ?_
 intro a w hs;refine zB (v:=zI (zA0 (zA0 t t) t)) hs (.c rfl (.c rfl .n)) call155 (zDW (zA0 t t) t (zCz _ _) (by omega) _) rfl ?_
 refine goL 17 [0] [2] (.c .z .n) ⟨(by omega),(by omega),(by omega),(by omega),(by omega),(by omega),(by omega),rfl,?_⟩
 intro a w hs;exact zM6 hs rfl rfl .z (.z (.c (.c (.c .n)))) isAgg348 sizeOf348 (.c .z .n) ⟨rfl,rfl⟩
theorem zX4 (x p1 q1 p2 q2 p3 q3:Int) (hx : -9223372036854775808≤x∧x≤9223372036854775807) (hp1 : -9223372036854775808≤p1∧p1≤9223372036854775807) (hq1 : -9223372036854775808≤q1∧q1≤9223372036854775807) (hp2 : -9223372036854775808≤p2∧p2≤9223372036854775807) (hq2 : -9223372036854775808≤q2∧q2≤9223372036854775807) (hp3 : -9223372036854775808≤p3∧p3≤9223372036854775807) (hq3 : -9223372036854775808≤q3∧q3≤9223372036854775807) (v:Value) (w0:World) (hb:Rd w0 [] v 2 3 [zI p1,zI q1,zI p2,zI q2,zI p3,zI q3]):Calls Tryz.prog 254 #[.int .i64 x,v] w0 (zAf w0 (zI (zav x p1 q1 p2 q2 p3 q3))):=by
 refine zG (F0:=[(0,zI x),(1,v)]) func254 rfl rfl rfl (.c (.c .n)) (Mem.nil _) ?_
 refine go 2 [] [7,0] .n ?_
 intro a w hs;refine zAC hs rfl (hs.rd0 hb).isSl underlying353 rfl ?_
 refine cl (·.recell (v':=zI 3) (Option.some.inj rfl)) ?_
 refine goL 1 [] [9,8,7,0] .n ?_
 intro a w hs;refine zCo 3 ?_
 revert a w hs
 refine go 2 [] [9,8,7,0] .n ?_
 intro a w hs;refine zBm (j:=0) hs rfl rfl (hs.rd0 hb) (by decide) (by omega) underlying353 sizeOf352 rfl ?_
 intro a w hs;refine zA9 (cs:=[zI p1,zI q1]) hs rfl (hs.rd0 hb) (by rfl) (by simp) (by decide) isAgg352 sizeOf352 rfl ?_
 refine goL 7 [0,0,0] [17,15,13,9,8,7] .n (λg1=>⟨rfl,rfl,rfl,?_⟩)
 intro a w hs;refine zB (v:=zI (zA0 p1 q1)) hs (.c rfl (.c rfl .n)) call155 (zDW p1 q1 (by omega) (by omega) _) rfl ?_
 intro a w hs;refine zB (v:=zI (zDD x (zA0 p1 q1))) hs (.c rfl (.c rfl .n)) call118 (zFQ x (zA0 p1 q1) (by omega) (zCz _ _) _) rfl ?_
 refine goL 3 [] [9,0,8,7] .n ⟨by decide,?_⟩
 intro a w hs;refine zAT ?_
 revert a w hs
 refine go 2 [] [9,0,8,7] .n ?_
 intro a w hs;refine zBm (j:=1) hs rfl rfl (hs.rd0 hb) (by decide) (by omega) underlying353 sizeOf352 rfl ?_
 intro a w hs;refine zA9 (cs:=[zI p2,zI q2]) hs rfl (hs.rd0 hb) (by rfl) (by simp) (by decide) isAgg352 sizeOf352 rfl ?_
 refine goL 7 [0,0,0] [17,15,13,9,8,7] .n (λg2=>⟨rfl,rfl,rfl,?_⟩)
 intro a w hs;refine zB (v:=zI (zA0 p2 q2)) hs (.c rfl (.c rfl .n)) call155 (zDW p2 q2 (by omega) (by omega) _) rfl ?_
 intro a w hs;refine zB (v:=zI (zDD (zDD x (zA0 p1 q1)) (zA0 p2 q2))) hs (.c rfl (.c rfl .n)) call118 (zFQ (zDD x (zA0 p1 q1)) (zA0 p2 q2) (zLN _ _) (zCz _ _) _) rfl ?_
 refine goL 3 [] [9,0,8,7] .n ⟨by decide,?_⟩
 intro a w hs;refine zAT ?_
 revert a w hs
 refine go 2 [] [9,0,8,7] .n ?_
 intro a w hs;refine zBm (j:=2) hs rfl rfl (hs.rd0 hb) (by decide) (by omega) underlying353 sizeOf352 rfl ?_
 intro a w hs;refine zA9 (cs:=[zI p3,zI q3]) hs rfl (hs.rd0 hb) (by rfl) (by simp) (by decide) isAgg352 sizeOf352 rfl ?_
 refine goL 7 [0,0,0] [17,15,13,9,8,7] .n (λg3=>⟨rfl,rfl,rfl,?_⟩)
 intro a w hs;refine zB (v:=zI (zA0 p3 q3)) hs (.c rfl (.c rfl .n)) call155 (zDW p3 q3 (by omega) (by omega) _) rfl ?_
 intro a w hs;refine zB (v:=zI (zDD (zDD (zDD x (zA0 p1 q1)) (zA0 p2 q2)) (zA0 p3 q3))) hs (.c rfl (.c rfl .n)) call118 (zFQ (zDD (zDD x (zA0 p1 q1)) (zA0 p2 q2)) (zA0 p3 q3) (zLN _ _) (zCz _ _) _) rfl ?_
 refine goL 3 [] [9,0,8,7] .n ⟨by decide,?_⟩
 intro a w hs;refine zAT ?_
 revert a w hs
 refine go 4 [] [4] .n ?_
 refine cl (·.drop (.c (.s (.s .z)) (.c (.s .z) (.c .z .n)))) ?_
 intro a w hs;exact fin hs rfl rfl ⟨rfl,rfl⟩
theorem zSb (x u y v n d:Int) (hx : -9223372036854775808≤x∧x≤9223372036854775807) (hu : -9223372036854775808≤u∧u≤9223372036854775807) (hy : -9223372036854775808≤y∧y≤9223372036854775807) (hv : -9223372036854775808≤v∧v≤9223372036854775807) (w0:World):Calls Tryz.prog 251 #[zI x,zI u,zI y,zI v,zI n,zI d] w0 (zAf w0 (.tuple #[zI (bif zBq n d==0 then cAt x u y v n d else 0),nI (zBq n d)])):=by
 refine zG (F0:=[(0,zI x),(1,zI u),(2,zI y),(3,zI v),(4,zI n),(5,zI d)]) func251 rfl rfl rfl (.c (.c (.c (.c (.c (.c .n)))))) (Mem.nil _) ?_
 refine go 4 [] [20,19,0,1,2,3,4,5] .n ?_
 intro a w hs;refine zB (v:=.tuple #[zI (bif zBq n d==0 then zBx n d else 0),nI (zBq n d)]) hs (.c rfl (.c rfl .n)) call252 (zPn n d _) rfl ?_
 refine goL 8 [] [24,15,14,0,1,2,3,4,5] .n ?_
 refine ifG rfl (λc_1=>?_) (λc_1=>?_)
 ·
  have hbad:=zIs (by assumption)
  refine go 3 [] [13,12] .n ?_
  intro a w hs;exact zBR hs rfl rfl rfl ⟨zR5 hbad _,rfl⟩
 have hc0:=zC9 (by assumption)
 have hp:=zTm hc0
 have hc1:=zF9 hc0
 obtain ⟨hw1,hw2,hw3⟩:=zcg hp
 intro a w hs;rw [hc0] at hs;simp only [beq_self_eq_true,cond_true] at hs
 revert a w hs
 refine go 3 [] [28,14,0,1,2,3,4,5] .n ?_
 refine ifG rfl (λc_2=>?_) (λc_2=>?_)
 ·
  refine go 3 [] [13,12] .n ?_
  intro a w hs;exact zBR hs rfl rfl rfl ⟨zGJ hc0 (zdL (by assumption)),rfl⟩
 refine go 4 [] [32,14,0,1,2,3,5] .n ?_
 refine ifG rfl (λc_3=>?_) (λc_3=>?_)
 ·
  refine go 3 [] [13,12] .n ?_
  intro a w hs;exact zBR hs rfl rfl rfl ⟨zGJ hc0 (zdH (by assumption) (by assumption)),rfl⟩
 refine go 1 [] [37,0,1,2,3,5] .n ?_
 intro a w hs;refine zB (v:=.agg #[zI (cW1 (zBx n d)),zI (cW2 (zBx n d)),zI (cW3 (zBx n d))]) hs (.c rfl .n) call253 (zbh (zBx n d) (by omega) _) rfl ?_
 refine goL 2 [0] [16,0,1,2,3,5] .n (λg4=>⟨rfl,?_⟩)
 intro a w hs
 refine zAS [.p [] [],.p [] [],.p [1] [0],.p [] [],.p [] [],.v [4,3] (zI (zBZ y x)),.p [5,2] [],.p [] [],.p [7] [0],.p [] [],.p [] [],.v [10,9] (zI (zA0 u d)),.p [11,8] [],.p [] [],.p [13] [0],.p [] [],.p [] [],.v [16,15] (zI (zA0 v d)),.p [17,14] [],.x [18,12,6] ⟨[],[],[],λvs5=>vs5 19 = .slice (some ⟨(zDC (vs5 19)),0,none⟩) 3 3,λvs5=>[blk (zDC (vs5 19)) [zI (cW1 (zBx n d)),zI (zBZ y x),zI (cW2 (zBx n d)),zI (zA0 u d),zI (cW3 (zBx n d)),zI (zA0 v d)] 352],none⟩,.y [0] (zI (zav x (cW1 (zBx n d)) (zBZ y x) (cW2 (zBx n d)) (zA0 u d) (cW3 (zBx n d)) (zA0 v d))) [] [] [] λvs5=>[],.p [20] []] [21] hs .n .n (.c .z .n) (by kernel_rfl) ⟨rfl,λ_ _ _ _ hm hs K=>zB (v:=zI (zBZ y x)) hs (.c rfl (.c rfl .n)) call65 (zGN y x (by omega) (by omega) _) rfl (vk K),rfl,λ_ _ _ _ hm hs K=>zB (v:=zI (zA0 u d)) hs (.c rfl (.c rfl .n)) call155 (zDW u d (by omega) (by omega) _) rfl (vk K),rfl,λ_ _ _ _ hm hs K=>zB (v:=zI (zA0 v d)) hs (.c rfl (.c rfl .n)) call155 (zDW v d (by omega) (by omega) _) rfl (vk K),⟨.n,by kernel_rfl,λ_=>rfl,rfl,rfl⟩,⟨?_,?_,trivial⟩,?_⟩
 ·
  intro a_ w_ R_ rest_ vs5 hm hs ht hx
  have hs0:=hs.bare
  refine zIt (cs:=[zI (cW1 (zBx n d)),zI (zBZ y x),zI (cW2 (zBx n d)),zI (zA0 u d),zI (cW3 (zBx n d)),zI (zA0 v d)]) hs (.c (.c (.c .n))) (.c rfl (.c rfl (.c rfl .n))) underlying353 (ie:=Tryz.t352) rfl rfl rfl rfl (by decide) (by decide) rfl (by decide) rfl rfl rfl ?_;clear hs;intro g6 a w hs
  exact wpList_nil ⟨rfl,_,_,hs0,(.c (.c (.c .r))),hs,rfl⟩
 ·
  intro a_ w_ R_ rest_ vs5 hm hs ht hx
  have t19:=ht 19 (zD 22 _ (by kernel_rfl))
  have e19:_=some (vs5 19):=t19.val rfl
  rw [show vs5 19 = .slice (some ⟨(zDC (vs5 19)),0,none⟩) 3 3 from t19.2.1] at e19
  replace hs:=hs.learn e19
  have hs0:=hs.bare
  refine zB (v:=zI (zav x (cW1 (zBx n d)) (zBZ y x) (cW2 (zBx n d)) (zA0 u d) (cW3 (zBx n d)) (zA0 v d))) hs (.c rfl (.c rfl .n)) call254 (zX4 x (cW1 (zBx n d)) (zBZ y x) (cW2 (zBx n d)) (zA0 u d) (cW3 (zBx n d)) (zA0 v d) (by omega) (by omega) (zCG _ _) (by omega) (zCz _ _) (by omega) (zCz _ _) (.slice (some ⟨(zDC (vs5 19)),0,none⟩) 3 3) _ (zAJ (m:=3) (size:=2) (hm.own (List.mem_append.2 (.inr ((ht 19 (zD 22 _ (by kernel_rfl))).2.2 (zJS (n:=22) (by kernel_rfl)) _ (List.Mem.head _))))) rfl (by decide))) rfl ?_;clear hs;intro a w hs
  exact wpList_nil ⟨rfl,_,_,hs0,(.c (.c .r)),hs,rfl⟩
 clear hs w a;intro vs5 a w hs hf
 generalize zDC (vs5 19)=g7 at hs
 clear hf
 revert a w hs
 refine goE 3 [] [62,61,60] .n ?_
 intro a w hs;refine zB (v:=zI (zHk (zav x (cW1 (zBx n d)) (zBZ y x) (cW2 (zBx n d)) (zA0 u d) (cW3 (zBx n d)) (zA0 v d)) x y)) hs (.c rfl (.c rfl (.c rfl .n))) call54 (zLv (zav x (cW1 (zBx n d)) (zBZ y x) (cW2 (zBx n d)) (zA0 u d) (cW3 (zBx n d)) (zA0 v d)) x y _) rfl ?_
 refine goL 2 [] [13,12] .n ?_
 refine cl (·.drop (.c (.s .z) (.c .z .n))) ?_
 intro a w hs;exact zBR hs rfl rfl rfl ⟨zGJ hc0 (zdD (by assumption) (by assumption)),rfl⟩
theorem zZ6 (x1 x2 x3 u1 u2 u3 y1 y2 y3 v1 v2 v3 n d:Int) (hx1 : -9223372036854775808≤x1∧x1≤9223372036854775807) (hx2 : -9223372036854775808≤x2∧x2≤9223372036854775807) (hx3 : -9223372036854775808≤x3∧x3≤9223372036854775807) (hu1 : -9223372036854775808≤u1∧u1≤9223372036854775807) (hu2 : -9223372036854775808≤u2∧u2≤9223372036854775807) (hu3 : -9223372036854775808≤u3∧u3≤9223372036854775807) (hy1 : -9223372036854775808≤y1∧y1≤9223372036854775807) (hy2 : -9223372036854775808≤y2∧y2≤9223372036854775807) (hy3 : -9223372036854775808≤y3∧y3≤9223372036854775807) (hv1 : -9223372036854775808≤v1∧v1≤9223372036854775807) (hv2 : -9223372036854775808≤v2∧v2≤9223372036854775807) (hv3 : -9223372036854775808≤v3∧v3≤9223372036854775807) (w0:World):Calls Tryz.prog 250 #[.agg #[zI x1,zI x2,zI x3],.agg #[zI u1,zI u2,zI u3],.agg #[zI y1,zI y2,zI y3],.agg #[zI v1,zI v2,zI v3],zI n,zI d] w0 (zAf w0 (.tuple #[.agg #[zI (bif zBq n d==0 then cAt x1 u1 y1 v1 n d else 0),zI (bif zBq n d==0 then cAt x2 u2 y2 v2 n d else 0),zI (bif zBq n d==0 then cAt x3 u3 y3 v3 n d else 0)],nI (zBq n d)])):=by
 refine zG (F0:=[(0,.agg #[zI x1,zI x2,zI x3]),(1,.agg #[zI u1,zI u2,zI u3]),(2,.agg #[zI y1,zI y2,zI y3]),(3,.agg #[zI v1,zI v2,zI v3]),(4,zI n),(5,zI d)]) func250 rfl rfl rfl (.c (.c (.c (.c (.c (.c .n)))))) (Mem.nil _) ?_
 refine go 8 [0,0,0,0] [18,14,12,9,8,7,6,4,5] .n (λg1=>λg2=>λg3=>λg4=>λg5=>λg6=>?_)
 intro a w hs;refine zCo 3 ?_
 revert a w hs
 refine go 4 [] [15,18,14,12,9,8,7,6,4,5] .n ?_
 intro a w hs
 refine zR [.p [] [],.p [0] [],.p [1] [0],.p [] [],.p [3] [],.p [4] [1],.p [] [],.p [6] [],.p [7] [2],.p [] [],.p [9] [],.p [10] [3],.p [] [],.p [] [],.v [13,12,11,8,5,2] (.tuple #[zI (bif zBq n d==0 then cAt x1 u1 y1 v1 n d else 0),nI (zBq n d)]),.p [14] [],.p [15] [],.p [15] [],.p [16] [],.p [17] []] [18,19] hs .n (.c (.s (.s (.s (.s (.s .z))))) (.c (.s (.s (.s (.s .z)))) (.c (.s (.s (.s .z))) (.c (.s (.s .z)) .n)))) (by kernel_rfl) ⟨rfl,rfl,rfl,rfl,λ_ _ _ _ hm hs K=>zB (v:=.tuple #[zI (bif zBq n d==0 then cAt x1 u1 y1 v1 n d else 0),nI (zBq n d)]) hs (.c rfl (.c rfl (.c rfl (.c rfl (.c rfl (.c rfl .n)))))) call251 (zSb x1 u1 y1 v1 n d (by omega) (by omega) (by omega) (by omega) _) rfl (vk K),⟨rfl,by kernel_rfl,λ_=>rfl,rfl,rfl,trivial⟩,λ_=>rfl,?_⟩
 refine goE 2 [] [40,17,16,15,18,14,12,9,8,7,6,4,5] .n ?_
 refine ifG rfl (λc_8=>?_) (λc_8=>?_)
 ·
  have hbad:=zIs (by assumption)
  refine go 4 [0] [13,12] (.c (.s .z) .n) ⟨rfl,?_⟩
  intro a w hs;exact zBQ hs rfl rfl rfl .z (.z (.c (.c (.c .n)))) isAgg40 sizeOf40 (.c (.s (.s (.s (.s (.s .z))))) (.c (.s (.s (.s (.s .z)))) (.c (.s (.s (.s .z))) (.c (.s (.s .z)) (.c (.s .z) (.c .z .n)))))) ⟨zS9 hbad _ _ _,rfl⟩
 have hc0:=zC9 (by assumption)
 intro a w hs;rw [hc0] at hs;simp only [beq_self_eq_true,cond_true] at hs
 revert a w hs
 refine go 6 [0] [18,14,12,9,8,7,6,4,5] (.c .z .n) ⟨rfl,by decide,?_⟩
 intro a w hs;refine zAT ?_
 revert a w hs
 refine go 4 [] [15,18,14,12,9,8,7,6,4,5] .n ?_
 intro a w hs
 refine zR [.p [] [],.p [0] [],.p [1] [0],.p [] [],.p [3] [],.p [4] [1],.p [] [],.p [6] [],.p [7] [2],.p [] [],.p [9] [],.p [10] [3],.p [] [],.p [] [],.v [13,12,11,8,5,2] (.tuple #[zI (bif zBq n d==0 then cAt x2 u2 y2 v2 n d else 0),nI (zBq n d)]),.p [14] [],.p [15] [],.p [15] [],.p [16] [],.p [17] []] [18,19] hs .n (.c (.s (.s (.s (.s (.s .z))))) (.c (.s (.s (.s (.s .z)))) (.c (.s (.s (.s .z))) (.c (.s (.s .z)) .n)))) (by kernel_rfl) ⟨rfl,rfl,rfl,rfl,λ_ _ _ _ hm hs K=>zB (v:=.tuple #[zI (bif zBq n d==0 then cAt x2 u2 y2 v2 n d else 0),nI (zBq n d)]) hs (.c rfl (.c rfl (.c rfl (.c rfl (.c rfl (.c rfl .n)))))) call251 (zSb x2 u2 y2 v2 n d (by omega) (by omega) (by omega) (by omega) _) rfl (vk K),⟨rfl,by kernel_rfl,λ_=>rfl,rfl,rfl,trivial⟩,λ_=>rfl,?_⟩
 refine goE 2 [] [40,17,16,15,18,14,12,9,8,7,6,4,5] .n ?_
 refine ifG rfl (λc_10=>?_) (λc_10=>?_)
 ·
  exfalso;omega
 intro a w hs;rw [hc0] at hs;simp only [beq_self_eq_true,cond_true] at hs
 revert a w hs
 refine go 6 [0] [18,14,12,9,8,7,6,4,5] (.c .z .n) ⟨rfl,by decide,?_⟩
 intro a w hs;refine zAT ?_
 revert a w hs
 refine go 4 [] [15,18,14,12,9,8,7,6,4,5] .n ?_
 intro a w hs
 refine zR [.p [] [],.p [0] [],.p [1] [0],.p [] [],.p [3] [],.p [4] [1],.p [] [],.p [6] [],.p [7] [2],.p [] [],.p [9] [],.p [10] [3],.p [] [],.p [] [],.v [13,12,11,8,5,2] (.tuple #[zI (bif zBq n d==0 then cAt x3 u3 y3 v3 n d else 0),nI (zBq n d)]),.p [14] [],.p [15] [],.p [15] [],.p [16] [],.p [17] []] [18,19] hs .n (.c (.s (.s (.s (.s (.s .z))))) (.c (.s (.s (.s (.s .z)))) (.c (.s (.s (.s .z))) (.c (.s (.s .z)) .n)))) (by kernel_rfl) ⟨rfl,rfl,rfl,rfl,λ_ _ _ _ hm hs K=>zB (v:=.tuple #[zI (bif zBq n d==0 then cAt x3 u3 y3 v3 n d else 0),nI (zBq n d)]) hs (.c rfl (.c rfl (.c rfl (.c rfl (.c rfl (.c rfl .n)))))) call251 (zSb x3 u3 y3 v3 n d (by omega) (by omega) (by omega) (by omega) _) rfl (vk K),⟨rfl,by kernel_rfl,λ_=>rfl,rfl,rfl,trivial⟩,λ_=>rfl,?_⟩
 refine goE 2 [] [40,17,16,15,18,14,12,9,8,7,6,4,5] .n ?_
 refine ifG rfl (λc_12=>?_) (λc_12=>?_)
 ·
  exfalso;omega
 intro a w hs;rw [hc0] at hs;simp only [beq_self_eq_true,cond_true] at hs
 revert a w hs
 refine go 6 [0] [18,14,12,9,8,7,6,4,5] (.c .z .n) ⟨rfl,by decide,?_⟩
 intro a w hs;refine zAT ?_
 revert a w hs
 refine go 5 [0,1] [13,12] (.c .z (.c .z .n)) ⟨rfl,rfl,?_⟩
 intro a w hs;exact zBQ hs rfl rfl rfl (.s .z) (.z (.c (.c (.c .n)))) isAgg40 sizeOf40 (.c (.s (.s (.s (.s (.s .z))))) (.c (.s (.s (.s (.s .z)))) (.c (.s (.s (.s .z))) (.c (.s (.s .z)) (.c (.s .z) (.c .z .n)))))) ⟨zWY hc0,rfl⟩
end Go.Proofs.YtajjkegcfmhghaaGreat
