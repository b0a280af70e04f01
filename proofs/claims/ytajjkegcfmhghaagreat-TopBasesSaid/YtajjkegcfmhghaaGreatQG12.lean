import Derived.Test.YtajjkegcfmhghaaGreatQG8
import Derived.Test.YtajjkegcfmhghaaGreatQG9
import Derived.Test.YtajjkegcfmhghaaGreatQG11
import Derived.Test.YtajjkegcfmhghaaGreatQSxBasB
import Derived.Test.YtajjkegcfmhghaaGreatQG7
/- Walks of Pick: what each function does, over the program of this seat. Printed by a program of this session. -/
namespace Go.Proofs.YtajjkegcfmhghaaGreat
open Tryz
open Go Go.Sx Go.RowKit
set_option linter.unusedVariables false
set_option linter.unusedSimpArgs false
set_option maxRecDepth 4000
set_option maxHeartbeats 1000000

theorem zXN (v:Value) (m:Nat) (hvs:zDo v m) (w0:World):Calls Tryz.prog 120 #[v] w0 (Ret w0 [] fun u N=>∃ b,u = .func (.func 163) #[] #[pt b 0] ∧ N = [blk b [v] 37]):=by
 refine zD (F0:=[(0,v)]) func120 rfl rfl rfl (.c .n) (Mem.nil _) ?_
 refine go 4 [1] [2] .n ⟨hvs.one,fun g1=>?_⟩
 intro a w hs;exact fin hs rfl rfl ⟨_,rfl,rfl⟩
def zKE (L:Nat) (l:List RI) (I:Nat → HA → Prop) (J:HA → Prop):Prop:=∀ (k:Nat) (X:HA) (W:World),I (k + 1) X → k < l.length → X.p W → X.foot.Nodup → YieldAt Fence.wide 0 Tryz.prog L #[zI (k:Int),.agg (snV (l.getD k default)).toArray] W fun e W'=>∃ b,e = .returned (.bool b) ∧ ∃ N,(∃ X',N = [X'] ∧ ((b = true ∧ I k X') ∨ (b = false ∧ J X'))) ∧ Mem W (zL [X]) N W'
theorem zKE.at {L:Nat} {l:List RI} {I:Nat → HA → Prop} {J:HA → Prop} {k:Nat} {X:HA} (h:zKE L l I J) (hI:I (k + 1) X) (hk:k < l.length):∀ W:World,(∀ h ∈ [X],h.p W) → (zL [X]).Nodup → YieldAt Fence.wide (1 - 1) Tryz.prog L ([zI (k:Int),.agg (snV (l.getD k default)).toArray]:List Value).toArray W fun e W'=>∃ b,e = .returned (.bool b) ∧ ∃ N,(∃ X',N = [X'] ∧ ((b = true ∧ I k X') ∨ (b = false ∧ J X'))) ∧ Mem W (zL [X]) N W':=fun W ha hn=>h k X W hI hk (ha X (by simp)) (by simpa [zL] using hn)
theorem zUf (L bx:Nat) (l:List RI) (hiv:∀ x ∈ l,zDo x.v x.l.length) (v:Value) (I:Nat → HA → Prop) (J:HA → Prop) (X:HA) (w0:World) (hbx:(blk bx [v] 37).p w0) (hbf:bx ∉ zL [X]) (hb:Rd w0 (zL [X]) v 3 l.length (l.flatMap snV)) (hX:X.p w0) (hnd:(zL [X]).Nodup) (hI:I l.length X) (hy:zKE L l I J):Calls Tryz.prog 163 #[.func (.yield L) #[] #[],pt bx 0] w0 (Ret w0 (zL [X]) fun u N=>∃ X',N = [X'] ∧ (I 0 X' ∨ J X')):=by
 have hle:=hb.le
 simp only [maxLen] at hle
 refine enter (F0:=[(0,.func (.yield L) #[] #[]),(1,pt bx 0)]) func163 rfl rfl rfl (.c (.c .n)) (zAl hX (by simpa [zL] using hnd)) fun a w hs=>?_
 refine wp_seq_k fun K1 hK2=>?_
 refine wp_region_lit ?_
 refine zU hs rfl (hs.mem.keep hbx hbf) .z isAgg37 rfl ?_;clear hs w a;intro a w hs
 refine zAE hs rfl (hs.rd0 hb).isSl underlying37 rfl ?_;clear hs w a;intro a w hs
 refine zH5 hs rfl rfl (by omega) rfl ?_;clear hs w a;intro a w hs
 refine zEZ hs rfl rfl ?_;clear hs w a;intro a w hs
 refine wpList_nil ?_
 refine zAr (hK2 _ _ ?_)
 refine wp_block ?_
 refine zKX (fun mm_ a w=>∃ k:Nat,∃ Y:HA,mm_ = 1 + k ∧ St 19 [(0,.func (.yield L) #[] #[]),(1,pt bx 0),(3,zI ((k:Int) - 1))] w0 (zL [X]) [Y] a w ∧ k ≤ l.length ∧ I k Y) ⟨l.length,X,rfl,hs.sub (.c rfl (.c rfl (.c rfl .n))),by omega,hI⟩ ?_
 clear hs w a;rintro mm_ a w ⟨k,Y,rfl,hs,hI1_0,hI1_1⟩
 refine wp_seq_k fun K3 hK4=>?_
 refine wp_seq_k fun K5 hK6=>?_
 refine wp_region_lit ?_
 refine zGH hs rfl rfl ?_;clear hs w a;intro a w hs
 refine zWN hs rfl rfl rfl ?_;clear hs w a;intro a w hs
 refine wpList_nil ?_
 refine zAr (hK6 _ _ ?_)
 refine zYr hs rfl (fun c_7=>?_) (fun c_7=>?_)
 ·
  replace c_7:=of_decide_eq_true c_7
  have hkj:∃ j,k = j + 1:=⟨k - 1,by omega⟩;obtain ⟨j,hj⟩:=hkj;subst hj
  have hv_:(((j + 1:Nat):Int) - 1:Int) = (j:Int):=by omega
  rw [hv_] at hs;clear hv_
  refine wp_skip ?_
  refine zAr (hK4 _ _ ?_)
  refine wp_seq_k fun K8 hK9=>?_
  refine wp_block ?_
  refine wp_seq_k fun K10 hK11=>?_
  refine (wpIn_wide (n:=1)).1 (wpIn_region_lit (zGk (l1:=[_,_,_,_,_,_]) (r:=none) (fun _ _ h=>by obtain ⟨_,_,h,_⟩:=h;cases h) _ _ (zAv rfl) ?_))
  refine zGH hs rfl rfl ?_;clear hs w a;intro a w hs
  refine zGH hs rfl rfl ?_;clear hs w a;intro a w hs
  refine zU hs rfl (hs.mem.keep hbx hbf) .z isAgg37 rfl ?_;clear hs w a;intro a w hs
  refine zGH hs rfl rfl ?_;clear hs w a;intro a w hs
  refine zBh (j:=j) hs rfl rfl (hs.rd0 hb) rfl (by omega) underlying37 sizeOf46 rfl ?_;clear hs w a;intro a w hs
  refine zBC (cs:=snV (l.getD j default)) hs rfl (hs.rd0 hb) (zAi zB6 l j (by omega)) (by rw [zAa zB6];omega) (by omega) isAgg46 sizeOf46 rfl ?_;clear hs w a;intro a w hs
  refine wpList_nil ?_
  show wpListIn _ _ _ _ _ _ _ _
  refine zRj (X:=[Y]) hs rfl (.c rfl (.c rfl .n)) (.c .z .n) (hy.at hI1_1 (by omega)) rfl ?_
  clear hs w a;rintro bb _ a w ⟨Y2,rfl,hR2⟩ hs;simp only [List.cons_append,List.nil_append] at hs
  refine zTB (fun _ _ h=>by obtain ⟨_,_,h,_⟩:=h;cases h) (zAv rfl) ?_
  refine zWm hs rfl rfl ?_;clear hs w a;intro a w hs
  refine wpList_nil ?_
  refine zAr (hK11 _ _ ?_)
  refine zYr hs rfl (fun c_12=>?_) (fun c_12=>?_)
  ·
   replace c_12:=zF5 c_12
   refine wp_ret ?_
   refine zcu ?_
   refine zcz ?_
   refine zcz ?_
   refine zcu ?_
   exact zVA hs rfl ⟨_,rfl,.inr (hR2.elim (fun h=>absurd (h.1.symm.trans (by assumption:bb = false)) (by decide)) fun h=>h.2)⟩
  replace c_12:=zGF c_12
  refine wp_skip ?_
  refine zbs ?_
  refine zAr (hK9 _ _ ?_)
  refine wp_region_lit ?_
  refine zGH hs rfl rfl ?_;clear hs w a;intro a w hs
  refine zH5 hs rfl rfl (by omega) rfl ?_;clear hs w a;intro a w hs
  refine zEZ hs rfl rfl ?_;clear hs w a;intro a w hs
  refine wpList_nil ?_
  refine zAr ?_
  refine ⟨_,?_,j,Y2,rfl,hs.sub (.c rfl (.c rfl (.c rfl .n))),by omega,(hR2.elim (fun h=>h.2) fun h=>absurd (h.1.symm.trans (by assumption:bb = true)) (by decide))⟩
  omega
 replace c_7:=of_decide_eq_false c_7
 have hk0:k = 0:=by omega
 subst hk0
 have hI0:=hI1_1
 refine wp_exit ?_
 refine zb1 ?_
 refine zb1 ?_
 refine zS0 ?_
 exact zIu hs rfl ⟨_,rfl,.inl hI0⟩
theorem zQS (L:List RI) (hiv:∀ x ∈ L,zDo x.v x.l.length) (v:Value) (t:Int) (w0:World) (hb:Rd w0 [] v 3 L.length (L.flatMap snV)) (hz:zDd none (tms L) ≠ 0):Calls Tryz.prog 82 #[.int .i64 t,v] w0 (zAe w0 (.tuple #[zI 0,zI 0,nI (zDd none (tms L))])):=by
 have hle:=hb.le
 simp only [maxLen] at hle
 refine zD (F0:=[(0,zI t),(1,v)]) func82 rfl rfl rfl (.c (.c .n)) (Mem.nil _) ?_
 refine go 5 [0] [11,6,5,4,2,1] .n (fun g1=>fun g2=>fun g3=>fun g4=>?_)
 intro a w hs;refine zB (v:=nI (zDd none (tms L))) hs (.c rfl .n) call119 (zF7 L hiv v _ (hs.rd0 hb)) rfl ?_
 refine goL 3 [] [14,7,6,5,4,2,1] .n ?_
 refine ifG rfl (fun c_5=>?_) (fun c_5=>?_)
 ·
  refine go 4 [0,1,2] [6,5,4] (.c (.s (.s .z)) (.c (.s .z) (.c .z .n))) ⟨rfl,rfl,rfl,?_⟩
  intro a w hs;exact zch hs rfl rfl rfl rfl .z (.s .z) (.s (.s .z)) isAgg3 isAgg3 isAgg34 (.c (.s (.s (.s .z))) (.c (.s (.s .z)) (.c (.s .z) (.c .z .n)))) ⟨rfl,rfl⟩
 exfalso;omega
theorem zPh (L:List RI) (hiv:∀ x ∈ L,zDo x.v x.l.length) (v:Value) (t:Int) (w0:World) (hb:Rd w0 [] v 3 L.length (L.flatMap snV)) (hz:zDd none (tms L) = 0):Calls Tryz.prog 82 #[.int .i64 t,v] w0 (zAe w0 (.tuple #[zI ((zBH L t).1),zI ((zBH L t).2.1),nI ((zBH L t).2.2)])):=by
 have hle:=hb.le
 simp only [maxLen] at hle
 refine zWO (F0:=[(0,zI t),(1,v)]) func82 rfl rfl rfl (.c (.c .n)) (Mem.nil _) fun a w hs=>?_
 refine wpIn_seq_k fun K1 hK2=>?_
 refine zBf (fun _ _ h=>by obtain ⟨_,_,h,_⟩:=h;cases h) (zAv rfl) ?_
 refine zJO (cs:=[zI t]) hs rfl rfl rfl ?_;clear hs w a;intro g3 a w hs
 refine zCi (cs:=[zI 0]) hs zeroValue3 rfl rfl ?_;clear hs w a;intro g4 a w hs
 refine zCi (cs:=[zI 0]) hs zeroValue3 rfl rfl ?_;clear hs w a;intro g5 a w hs
 refine zCi (cs:=[zI 0]) hs zeroValue34 rfl rfl ?_;clear hs w a;intro g6 a w hs
 refine wpList_nil ?_
 refine zAr (hK2 _ _ ?_)
 refine wpIn_seq_k fun K7 hK8=>?_
 refine wpIn_seq_k fun K9 hK10=>?_
 refine zBf (fun _ _ h=>by obtain ⟨_,_,h,_⟩:=h;cases h) (zAv rfl) ?_
 refine zGH hs rfl rfl ?_;clear hs w a;intro a w hs
 refine zB (v:=nI (zDd none (tms L))) hs (.c rfl .n) call119 (zF7 L hiv v _ (hs.rd0 hb)) rfl ?_;clear hs w a;intro a w hs
 refine zEZ hs rfl rfl ?_;clear hs w a;intro a w hs
 refine wpList_nil ?_
 refine zAr (hK10 _ _ ?_)
 refine wpIn_seq_k fun K11 hK12=>?_
 refine zBf (fun _ _ h=>by obtain ⟨_,_,h,_⟩:=h;cases h) (zAv rfl) ?_
 refine zGH hs rfl rfl ?_;clear hs w a;intro a w hs
 refine zWU hs rfl rfl rfl ?_;clear hs w a;intro a w hs
 refine wpList_nil ?_
 refine zAr (hK12 _ _ ?_)
 refine zRr hs rfl (fun hc_=>?_) (fun hc_=>?_)
 ·
  replace hc_:=zF5 hc_
  replace hc_:=zAW hc_
  exfalso;omega
 replace hc_:=zGF hc_
 replace hc_:=eq_of_beq hc_
 refine wpIn_skip ?_
 refine zAr (hK8 _ _ ?_)
 refine wpIn_seq_k fun K13 hK14=>?_
 refine zBf (fun _ _ h=>by obtain ⟨_,_,h,_⟩:=h;cases h) (zAv rfl) ?_
 refine zCi (cs:=[zI 0]) hs zeroValue3 rfl rfl ?_;clear hs w a;intro g15 a w hs
 refine zBb hs rfl rfl .z .z rfl sizeOf3 ?_;clear hs w a;intro a w hs
 refine wpList_nil ?_
 refine zAr (hK14 _ _ ?_)
 refine wpIn_seq_k fun K16 hK17=>?_
 refine wpIn_seq_k fun K18 hK19=>?_
 refine zBf (fun _ _ h=>by obtain ⟨_,_,h,_⟩:=h;cases h) (zAv rfl) ?_
 refine zGH hs rfl rfl ?_;clear hs w a;intro a w hs
 refine zK hs (.c rfl .n) call120 .n (zXN v _ (hs.rd0 hb).isSl _) rfl ?_;clear hs w a;rintro _ _ a w ⟨bx20,rfl,rfl⟩ hs
 refine wpList_nil ?_
 refine zAr (hK19 _ _ ?_)
 refine wpIn_block ?_
 replace hs:=hs.reorder (.c .z (.c (.s (.s (.s (.s .z)))) (.c (.s (.s (.s .z))) (.c (.s (.s .z)) (.c (.s .z) (.c .z .n))))))
 refine zKi hs rfl call163 (fun fn D Lo W rec hrec hm=>?_)
 have hm2:=hm.reorder (X:=[blk bx20 [v] 37,blk g3 [zI t] 2,blk g4 [zI 0] 3,blk g5 [zI 0] 3,blk g6 [zI 0] 34,blk g15 [zI (-1)] 3,obj Lo (.loop (rec .ready)),obj D (.deferred (some []))]) (.c (.s (.s .z)) (.c (.s (.s .z)) (.c (.s (.s .z)) (.c (.s (.s .z)) (.c (.s (.s .z)) (.c (.s (.s .z)) (.c .z (.c .z .n))))))))
 obtain ⟨hp1,hp2,hp3⟩:=Mem.parts (A:=[blk bx20 [v] 37]) hm2
 have hy:zKE Lo L (fun (k:Nat) (X:HA)=>X = zF9 [blk g3 [zI t] 2,blk g4 [zI 0] 3,blk g5 [zI 0] 3,blk g6 [zI 0] 34,blk g15 [zI (if k = L.length then -1 else ((k:Nat):Int))] 3,obj Lo (.loop (rec .ready)),obj D (.deferred (some []))] ∧ zKW L t L.length = zKW L t k) (fun (X:HA)=>∃ (i:Nat) (nx:Int),X = zF9 [blk g3 [zI t] 2,blk g4 [zI (i:Int)] 3,blk g5 [zI nx] 3,blk g6 [zI 0] 34,blk g15 [zI nx] 3,obj Lo (.loop (zTT rec)),obj D (.deferred (some []))] ∧ zKW L t L.length = some (i,nx)):=by
  rintro k X W1 ⟨rfl,hpk⟩ hk hX hn
  have hX2:=(zWV hX).reorder (X:=[obj Lo (.loop (rec .ready)),blk g3 [zI t] 2,blk g4 [zI 0] 3,blk g5 [zI 0] 3,blk g6 [zI 0] 34,blk g15 [zI (if (k + 1) = L.length then -1 else (((k + 1):Nat):Int))] 3,obj D (.deferred (some []))]) (.c (.s (.s (.s (.s (.s .z))))) (.c .z (.c .z (.c .z (.c .z (.c .z (.c .z .n)))))))
  refine zJC (zQX (post:=fun N=>N = [blk g3 [zI t] 2,blk g4 [zI 0] 3,blk g5 [zI 0] 3,blk g6 [zI 0] 34,blk g15 [zI (k:Int)] 3,obj D (.deferred (some []))] ∧ ¬ (L.getD k default).tm ≤ t) (postJ:=fun N=>N = [blk g3 [zI t] 2,blk g4 [zI (k:Int)] 3,blk g5 [zI (if (k + 1) = L.length then -1 else (((k + 1):Nat):Int))] 3,blk g6 [zI 0] 34,blk g15 [zI (if (k + 1) = L.length then -1 else (((k + 1):Nat):Int))] 3,obj D (.deferred (some []))] ∧ (L.getD k default).tm ≤ t) hs hrec rfl rfl rfl hX2 (fun a w hs=>?_)) ?_
  ·
   refine wpIn_seq_k fun K6 hK6=>?_
   refine zBf (fun _ _ h=>h) (zAv rfl) ?_
   refine zEZ hs rfl rfl ?_;clear hs w a;intro a w hs
   refine wpList_nil ?_
   refine zAr (hK6 _ _ ?_)
   refine zBf (fun _ _ h=>h) (zAv rfl) ?_
   refine zCi (cs:=[zI 0,zI 0,.slice none 0 0]) hs zeroValue46 rfl rfl ?_;clear hs w a;intro g21 a w hs
   refine zAg hs rfl rfl .z (.z (.c (.c (.c .n)))) (zH rfl (zH rfl (zH (hiv _ (zFl (by omega))).one zAf))) sizeOf46 rfl ?_;clear hs w a;intro a w hs
   refine wpList_nil ?_
   replace hs:=hs.reorder (.c (.s .z) (.c .z (.c .z (.c .z (.c .z (.c .z (.c .z (.c .z .n))))))))
   refine ⟨_,_,hs,?_⟩;clear hs;intro w3 hs
   refine wpIn_block ?_
   refine wpIn_seq_k fun K1 hK1=>?_
   refine wpIn_seq_k fun K2 hK2=>?_
   refine zBf (fun _ _ h=>(by rcases h with ⟨h,_⟩ | ⟨h,_⟩ <;> cases h)) (zAv rfl) ?_
   refine zcj hs rfl underlying46 rfl sizeOf2 (by decide) (o:=1) rfl rfl ?_;clear hs w a;intro a w hs
   refine zLJ hs rfl (.s .z) (.s .z) isAgg2 rfl ?_;clear hs w a;intro a w hs
   refine zLJ hs rfl (.s (.s .z)) .z isAgg2 rfl ?_;clear hs w a;intro a w hs
   refine zI6 hs rfl rfl rfl ?_;clear hs w a;intro a w hs
   refine wpList_nil ?_
   refine zAr (hK2 _ _ ?_)
   refine zRr hs rfl (fun hc_=>?_) (fun hc_=>?_)
   ·
    replace hc_:=of_decide_eq_true hc_
    refine wpIn_seq_k fun K3 hK3=>?_
    refine zSv (fun _ _ h=>(by rcases h with ⟨h,_⟩ | ⟨h,_⟩ <;> cases h)) (zAv rfl) [.v [] (zI (k:Int)),.v [] (zI (if (k + 1) = L.length then -1 else (((k + 1):Nat):Int))),.s [0] [0] [0] [],.s [1] [0] [1] [],.s [] [0] [2] []] [] hs (.c (.s (.s (.s .z))) (.c (.s (.s (.s .z))) (.c (.s (.s (.s .z))) .n))) .n (by kernel_rfl) ⟨fun _ _ _ _ hm hs K=>zGH hs rfl rfl (vk K),fun _ _ _ _ hm hs K=>zU hs rfl (hm.del (.s (.s (.s .z)))) .z isAgg3 rfl (vk K),rfl,rfl,rfl,⟨rfl,by kernel_rfl,fun _=>rfl,rfl,rfl,trivial⟩,fun _=>rfl,?_⟩
    intro a w hs;refine zAr (hK3 _ _ ?_)
    refine wpIn_ret ?_
    replace hs:=hs.drop (.c (.s .z) .n)
    replace hs:=hs.reorder (.c .z (.c .z (.c (.s (.s .z)) (.c (.s (.s .z)) (.c (.s (.s .z)) (.c .z (.c .z .n)))))))
    exact Or.inr ⟨rfl,_,⟨rfl,hc_⟩,hs.mem⟩
   replace hc_:=of_decide_eq_false hc_
   refine wpIn_skip ?_
   refine zAr (hK1 _ _ ?_)
   refine zBf (fun _ _ h=>(by rcases h with ⟨h,_⟩ | ⟨h,_⟩ <;> cases h)) (zAv rfl) ?_
   refine zGH hs rfl rfl ?_;clear hs w a;intro a w hs
   refine zBb hs rfl rfl (.s (.s (.s (.s (.s (.s .z)))))) .z rfl sizeOf3 ?_;clear hs w a;intro a w hs
   refine wpList_nil ?_
   replace hs:=hs.drop (.c (.s (.s .z)) .n)
   replace hs:=hs.reorder (.c (.s .z) (.c (.s .z) (.c (.s .z) (.c (.s .z) (.c (.s .z) (.c .z (.c .z .n)))))))
   refine zbs ?_
   exact Or.inl ⟨rfl,_,⟨rfl,hc_⟩,hs.mem⟩
  rintro e W' (⟨rfl,N,⟨rfl,hc⟩,hM⟩ | ⟨rfl,N,⟨rfl,hc⟩,hM⟩)
  · refine ⟨true,rfl,_,⟨_,rfl,.inl ⟨rfl,rfl,?_⟩⟩,?_⟩
    · rw [hpk];exact zXy hc
    · rw [if_neg (by omega:¬ k = L.length)];exact (hM.reorder (.c (.s .z) (.c (.s .z) (.c (.s .z) (.c (.s .z) (.c (.s .z) (.c .z (.c .z .n)))))))).sep
  · exact ⟨false,rfl,_,⟨_,rfl,.inr ⟨rfl,k,_,rfl,by rw [hpk];exact zT4 hc⟩⟩,(hM.reorder (.c (.s .z) (.c (.s .z) (.c (.s .z) (.c (.s .z) (.c (.s .z) (.c .z (.c .z .n)))))))).sep⟩
 have hrd:Rd W (zL [zF9 [blk g3 [zI t] 2,blk g4 [zI 0] 3,blk g5 [zI 0] 3,blk g6 [zI 0] 34,blk g15 [zI (-1)] 3,obj Lo (.loop (rec .ready)),obj D (.deferred (some []))]]) v 3 L.length (L.flatMap snV):=hm2.rd hb (fun k hk=>by rw [zBu] at hk;exact List.mem_append_right _ hk)
 have hbf:bx20 ∉ zL [zF9 [blk g3 [zI t] 2,blk g4 [zI 0] 3,blk g5 [zI 0] 3,blk g6 [zI 0] 34,blk g15 [zI (-1)] 3,obj Lo (.loop (rec .ready)),obj D (.deferred (some []))]]:=fun h=>(List.nodup_append.1 (by simpa only [zAm] using hp3)).2.2 bx20 (by simp [zL,blk]) bx20 h rfl
 have hnd2:(zL [zF9 [blk g3 [zI t] 2,blk g4 [zI 0] 3,blk g5 [zI 0] 3,blk g6 [zI 0] 34,blk g15 [zI (-1)] 3,obj Lo (.loop (rec .ready)),obj D (.deferred (some []))]]).Nodup:=(List.nodup_append.1 (by simpa only [zAm] using hp3)).2.1
 refine (zUf Lo bx20 L hiv v (fun (k:Nat) (X:HA)=>X = zF9 [blk g3 [zI t] 2,blk g4 [zI 0] 3,blk g5 [zI 0] 3,blk g6 [zI 0] 34,blk g15 [zI (if k = L.length then -1 else ((k:Nat):Int))] 3,obj Lo (.loop (rec .ready)),obj D (.deferred (some []))] ∧ zKW L t L.length = zKW L t k) (fun (X:HA)=>∃ (i:Nat) (nx:Int),X = zF9 [blk g3 [zI t] 2,blk g4 [zI (i:Int)] 3,blk g5 [zI nx] 3,blk g6 [zI 0] 34,blk g15 [zI nx] 3,obj Lo (.loop (zTT rec)),obj D (.deferred (some []))] ∧ zKW L t L.length = some (i,nx)) _ W (hp1 _ (by simp)) hbf hrd hp2 hnd2 ⟨by rw [if_pos rfl],rfl⟩ hy).mono ?_
 rintro e W' ⟨u,N,rfl,⟨X',rfl,hIJ⟩,hM⟩
 rw [zBu] at hM
 rcases hIJ with ⟨rfl,hpk⟩ | ⟨i,nx,rfl,hpk⟩
 ·
  have hM3:=hm2.frame (.c (.s .z) (.c (.s .z) (.c (.s .z) (.c (.s .z) (.c (.s .z) (.c (.s .z) (.c (.s .z) .n))))))) (Mem.unsep (A:=[]) hM)
  refine ⟨⟨_,rfl⟩,.inl ⟨[blk g3 [zI t] 2,blk g4 [zI 0] 3,blk g5 [zI 0] 3,blk g6 [zI 0] 34,blk g15 [zI (if 0 = L.length then -1 else ((0:Nat):Int))] 3,blk bx20 [v] 37],hM3.reorder (.c (.s (.s (.s (.s (.s .z))))) (.c (.s (.s (.s (.s (.s .z))))) (.c .z (.c .z (.c .z (.c .z (.c .z (.c .z .n)))))))),fun W2 hM4=>?_⟩⟩
  rw [zNY _ hs.dfr]
  refine zbs ?_
  refine zAr (hK17 _ _ ?_)
  refine wpIn_seq_k fun K9 hK9=>?_
  have hac:({ tmps:=a.tmps,defers:=[{ target:=.collected D,args:=#[] }] }:Act) = wDf [{ target:=.collected D,args:=#[] }] a:=by unfold wDf;rw [hs.dfr];rfl
  rw [hac]
  refine zBf (fun _ _ h=>by obtain ⟨_,_,h,_⟩:=h;cases h) (zAv rfl) (zNg (fun _ _ h=>by obtain ⟨_,_,h,_⟩:=h;cases h) _ _ _ ?_)
  refine (?_:∀ a w,St 27 [(17,.func (.func 163) #[] #[pt bx20 0]),(16,v),(8,pt g15 0),(14,.bool (!((((zDd none (tms L):Nat):Int):Int) == 0))),(13,nI (zDd none (tms L))),(7,nI (zDd none (tms L))),(12,nI (zDd none (tms L))),(11,v),(6,pt g6 0),(5,pt g5 0),(4,pt g4 0),(2,pt g3 0),(0,zI t),(1,v)] w0 [] [obj Lo (.loop (rec .exhausted)),obj D (.deferred (some [])),blk g3 [zI t] 2,blk g4 [zI 0] 3,blk g5 [zI 0] 3,blk g6 [zI 0] 34,blk g15 [zI (if 0 = L.length then -1 else ((0:Nat):Int))] 3,blk bx20 [v] 37] a w → wpList _ _ _ _ a w) a W2 (hs.memTo hM4)
  intro a w hs
  refine zBb hs rfl rfl (.s (.s (.s .z))) .z rfl sizeOf3 ?_;clear hs w a;intro a w hs
  refine zBb hs rfl rfl (.s (.s (.s (.s .z)))) .z rfl sizeOf3 ?_;clear hs w a;intro a w hs
  refine zBb hs rfl rfl (.s (.s (.s (.s (.s .z))))) .z rfl sizeOf34 ?_;clear hs w a;intro a w hs
  refine wpList_nil ?_
  refine zAr (hK9 _ _ ?_)
  refine wpIn_ret ?_
  have hM4:=hs.mem
  show bodyPostM _ _ _ _ _ .ret { tmps:=a.tmps,defers:=a.defers ++ [{ target:=.collected D,args:=#[] }] } _
  rw [hs.dfr]
  have hM5:=hM4.frame (X:=[obj D (.deferred (some []))]) (.c (.s (.s (.s (.s .z)))) .n) (zDG (o':=.deferred none) (hM4.del (.s (.s (.s (.s .z))))))
  refine zWX (v:=.tuple #[zI 0,zI 0,zI 5]) (zKt rfl (hs.agr 4 _ rfl) (hs.agr 5 _ rfl) (hs.agr 6 _ rfl) (hM5.del (.s (.s (.s .z)))) (hM5.del (.s (.s .z))) (hM5.del (.s .z)) isAgg3 isAgg3 isAgg34) (hM4.del (.s (.s (.s (.s .z))))) ?_
  exact ⟨_,[],rfl,⟨by rw [zYc (by omega) hpk];rfl,rfl⟩,hM5.drop (.c .z (.c .z (.c .z (.c .z (.c .z (.c .z (.c .z (.c .z .n))))))))⟩
 ·
  have hM3:=hm2.frame (.c (.s .z) (.c (.s .z) (.c (.s .z) (.c (.s .z) (.c (.s .z) (.c (.s .z) (.c (.s .z) .n))))))) (Mem.unsep (A:=[]) hM)
  refine ⟨⟨_,rfl⟩,.inr ⟨[blk g3 [zI t] 2,blk g4 [zI (i:Int)] 3,blk g5 [zI nx] 3,blk g6 [zI 0] 34,blk g15 [zI nx] 3,blk bx20 [v] 37],hM3.reorder (.c (.s (.s (.s (.s (.s .z))))) (.c (.s (.s (.s (.s (.s .z))))) (.c .z (.c .z (.c .z (.c .z (.c .z (.c .z .n)))))))),fun W2 hM4=>?_⟩⟩
  rw [zNY _ hs.dfr]
  show bodyPostM _ _ _ _ _ .ret { tmps:=a.tmps,defers:=[{ target:=.collected D,args:=#[] }] } _
  have hM5:=hM4.frame (X:=[obj D (.deferred (some []))]) (.c (.s .z) .n) (zDG (o':=.deferred none) (hM4.del (.s .z)))
  refine zWX (v:=.tuple #[zI (i:Int),zI nx,zI 0]) (zKt rfl (hs.agr 4 _ rfl) (hs.agr 5 _ rfl) (hs.agr 6 _ rfl) (hM5.del (.s (.s (.s .z)))) (hM5.del (.s (.s (.s (.s .z))))) (hM5.del (.s (.s (.s (.s (.s .z)))))) isAgg3 isAgg3 isAgg34) (hM4.del (.s .z)) ?_
  exact ⟨_,[],rfl,⟨by rw [zZi (by omega) hpk];rfl,rfl⟩,hM5.drop (.c .z (.c .z (.c .z (.c .z (.c .z (.c .z (.c .z (.c .z .n))))))))⟩
theorem zUG (L:List RI) (hiv:∀ x ∈ L,zDo x.v x.l.length) (v:Value) (t:Int) (w0:World) (hb:Rd w0 [] v 3 L.length (L.flatMap snV)):Calls Tryz.prog 82 #[.int .i64 t,v] w0 (zAe w0 (.tuple #[zI ((zBH L t).1),zI ((zBH L t).2.1),nI ((zBH L t).2.2)])):=by
 by_cases hz:zDd none (tms L) = 0
 · exact zPh L hiv v t w0 hb hz
 · rw [zZQ (by omega)];exact zQS L hiv v t w0 hb hz
end Go.Proofs.YtajjkegcfmhghaaGreat
/- Walks of angles: what each function does, over the program of this seat. Printed by a program of this session. -/
namespace Go.Proofs.YtajjkegcfmhghaaGreat
open Tryz
open Go Go.Sx Go.RowKit
set_option linter.unusedVariables false
set_option linter.unusedSimpArgs false
set_option maxRecDepth 4000
set_option maxHeartbeats 1000000

theorem zaN (A B:BitVec 16) (w0:World):Calls Tryz.prog 55 #[.int .u16 (((A).toNat:Nat):Int),.int .u16 (((B).toNat:Nat):Int)] w0 (zAe w0 (zI (aTo A B))):=by
 refine zD (F0:=[(0,.int .u16 (((A).toNat:Nat):Int)),(1,.int .u16 (((B).toNat:Nat):Int))]) func55 rfl rfl rfl (.c (.c .n)) (Mem.nil _) ?_
 refine go 3 [] [6,5] .n ?_
 intro a w hs;refine zJI (X:=B) (Y:=A) hs rfl rfl rfl rfl rfl ?_
 intro a w hs;refine zJ8 (X:=B - A) hs rfl rfl underlying117 underlying163 rfl ?_
 intro a w hs;refine zB2 hs rfl (zXU (B - A)) underlying163 underlying3 rfl ?_
 refine goL 1 [] [4] .n ?_
 intro a w hs;exact fin hs rfl rfl ⟨rfl,rfl⟩
theorem zVR (A B:BitVec 16) (w0:World):Calls Tryz.prog 32 #[.int .u16 (((A).toNat:Nat):Int),.int .u16 (((B).toNat:Nat):Int)] w0 (zAe w0 (zI (aTo A B))):=by
 refine zD (F0:=[(0,.int .u16 (((A).toNat:Nat):Int)),(1,.int .u16 (((B).toNat:Nat):Int))]) func32 rfl rfl rfl (.c (.c .n)) (Mem.nil _) ?_
 refine go 3 [] [6,5] .n ?_
 intro a w hs;refine zB (v:=zI (aTo A B)) hs (.c rfl (.c rfl .n)) call55 (zaN A B _) rfl ?_
 refine goL 1 [] [4] .n ?_
 intro a w hs;exact fin hs rfl rfl ⟨rfl,rfl⟩
theorem zaZ (A:BitVec 16) (x:Int) (w0:World):Calls Tryz.prog 198 #[.int .u16 (((A).toNat:Nat):Int),zI x] w0 (zAe w0 (.int .u16 (((aBy A x).toNat:Nat):Int))):=by
 refine zD (F0:=[(0,.int .u16 (((A).toNat:Nat):Int)),(1,zI x)]) func198 rfl rfl rfl (.c (.c .n)) (Mem.nil _) ?_
 refine go 3 [] [6,5] .n ?_
 intro a w hs;refine zS8 hs rfl underlying3 underlying117 rfl ?_
 intro a w hs;refine zJn (X:=A) (Y:=BitVec.ofInt 16 x) hs rfl rfl rfl rfl rfl ?_
 refine goL 1 [] [4] .n ?_
 intro a w hs;exact fin hs rfl rfl ⟨rfl,rfl⟩
theorem zTy (A:BitVec 16) (x:Int) (w0:World):Calls Tryz.prog 167 #[.int .u16 (((A).toNat:Nat):Int),zI x] w0 (zAe w0 (.int .u16 (((aBy A x).toNat:Nat):Int))):=by
 refine zD (F0:=[(0,.int .u16 (((A).toNat:Nat):Int)),(1,zI x)]) func167 rfl rfl rfl (.c (.c .n)) (Mem.nil _) ?_
 refine go 3 [] [6,5] .n ?_
 intro a w hs;refine zB (v:=.int .u16 (((aBy A x).toNat:Nat):Int)) hs (.c rfl (.c rfl .n)) call198 (zaZ A x _) rfl ?_
 refine goL 1 [] [4] .n ?_
 intro a w hs;exact fin hs rfl rfl ⟨rfl,rfl⟩
theorem zUb (A B:BitVec 16) (n d:Int) (w0:World):Calls Tryz.prog 126 #[.int .u16 (((A).toNat:Nat):Int),.int .u16 (((B).toNat:Nat):Int),zI n,zI d] w0 (zAe w0 (.tuple #[.int .u16 (((bif zBc n d == 0 then zXp A B n d else 0#16).toNat:Nat):Int),nI (zBc n d)])):=by
 have hr:=zYV A B
 refine zD (F0:=[(0,.int .u16 (((A).toNat:Nat):Int)),(1,.int .u16 (((B).toNat:Nat):Int)),(2,zI n),(3,zI d)]) func126 rfl rfl rfl (.c (.c (.c (.c .n)))) (Mem.nil _) ?_
 refine go 4 [] [14,13,0,2,3] .n ?_
 intro a w hs;refine zB (v:=zI (aTo A B)) hs (.c rfl (.c rfl .n)) call32 (zVR A B _) rfl ?_
 refine goL 2 [] [17,16,15,0] .n ?_
 intro a w hs;refine zB (v:=.tuple #[zI (bif zBc n d == 0 then zC3 0 (aTo A B) n d else 0),nI (zBc n d)]) hs (.c rfl (.c rfl (.c rfl (.c rfl .n)))) call166 (zOq 0 (aTo A B) n d (by omega) (by omega) _) rfl ?_
 refine goL 7 [] [22,11,10,0] .n ?_
 refine ifG rfl (fun c_1=>?_) (fun c_1=>?_)
 ·
  have hbad:=zIN (by assumption)
  refine go 3 [] [9,8] .n ?_
  intro a w hs;exact zBK hs rfl rfl rfl ⟨zXn hbad _,rfl⟩
 have hc0:=zCv (by assumption)
 refine go 2 [] [25,24] .n ?_
 intro a w hs;refine zB (v:=.int .u16 (((aBy A (bif zBc n d == 0 then zC3 0 (aTo A B) n d else 0)).toNat:Nat):Int)) hs (.c rfl (.c rfl .n)) call167 (zTy A (bif zBc n d == 0 then zC3 0 (aTo A B) n d else 0) _) rfl ?_
 refine goL 2 [] [9,8] .n ?_
 intro a w hs;exact zBK hs rfl rfl rfl ⟨zVf hc0 (by rw [hc0];rfl),rfl⟩
end Go.Proofs.YtajjkegcfmhghaaGreat
/- Walks of places: what each function does, over the program of this seat. Printed by a program of this session. -/
namespace Go.Proofs.YtajjkegcfmhghaaGreat
open Tryz
open Go Go.Sx Go.RowKit
set_option linter.unusedVariables false
set_option linter.unusedSimpArgs false
set_option maxRecDepth 4000
set_option maxHeartbeats 1000000

theorem zP5 (f:FuncId) (x1 x2 x3:Int) (y1 y2 y3:Int) (z1 z2 z3:Int) (hcl:∀ args w,(callFunc f args).run Tryz.prog w = .ok (.enter f args) w) (hf1:∀ w0,Calls Tryz.prog f #[zI x1,zI y1] w0 (zAe w0 (zI z1))) (hf2:∀ w0,Calls Tryz.prog f #[zI x2,zI y2] w0 (zAe w0 (zI z2))) (hf3:∀ w0,Calls Tryz.prog f #[zI x3,zI y3] w0 (zAe w0 (zI z3))) (w0:World):Calls Tryz.prog 195 #[.agg #[zI x1,zI x2,zI x3],.agg #[zI y1,zI y2,zI y3],.func (.func f) #[] #[]] w0 (zAe w0 (.agg #[zI z1,zI z2,zI z3])):=by
 refine zD (F0:=[(0,.agg #[zI x1,zI x2,zI x3]),(1,.agg #[zI y1,zI y2,zI y3]),(2,.func (.func f) #[] #[])]) func195 rfl rfl rfl (.c (.c (.c .n))) (Mem.nil _) ?_
 refine go 5 [0,0] [9,7,6,4,3,2] .n (fun g1=>fun g2=>fun g3=>fun g4=>?_)
 intro a w hs;refine zCX 3 ?_
 revert a w hs
 refine go 4 [] [8,9,7,6,4,3,2] .n ?_
 intro a w hs
 refine zR [.p [] [],.p [] [],.p [] [],.p [2] [],.p [3] [0],.p [] [],.p [5] [],.p [6] [1],.v [7,4,1] (zI z1),.p [0] [],.s [9,8] [0] [0] []] [] hs (.c .z .n) (.c (.s (.s .z)) (.c (.s .z) .n)) (by kernel_rfl) ⟨rfl,rfl,fun _ _ _ _ hm hs K=>zBa (us:=[]) (v:=zI z1) hs rfl (.c rfl (.c rfl .n)) rfl hcl (hf1 _) rfl (vk K),rfl,⟨rfl,by kernel_rfl,fun _=>rfl,rfl,rfl,trivial⟩,fun _=>rfl,?_⟩
 refine goE 2 [] [9,7,6,4,3,2] .n ⟨by decide,?_⟩
 intro a w hs;refine zAQ ?_
 revert a w hs
 refine go 4 [] [8,9,7,6,4,3,2] .n ?_
 intro a w hs
 refine zR [.p [] [],.p [] [],.p [] [],.p [2] [],.p [3] [0],.p [] [],.p [5] [],.p [6] [1],.v [7,4,1] (zI z2),.p [0] [],.s [9,8] [0] [0] []] [] hs (.c (.s (.s (.s .z))) .n) (.c (.s (.s .z)) (.c (.s .z) .n)) (by kernel_rfl) ⟨rfl,rfl,fun _ _ _ _ hm hs K=>zBa (us:=[]) (v:=zI z2) hs rfl (.c rfl (.c rfl .n)) rfl hcl (hf2 _) rfl (vk K),rfl,⟨rfl,by kernel_rfl,fun _=>rfl,rfl,rfl,trivial⟩,fun _=>rfl,?_⟩
 refine goE 2 [] [9,7,6,4,3,2] .n ⟨by decide,?_⟩
 intro a w hs;refine zAQ ?_
 revert a w hs
 refine go 4 [] [8,9,7,6,4,3,2] .n ?_
 intro a w hs
 refine zR [.p [] [],.p [] [],.p [] [],.p [2] [],.p [3] [0],.p [] [],.p [5] [],.p [6] [1],.v [7,4,1] (zI z3),.p [0] [],.s [9,8] [0] [0] []] [] hs (.c (.s (.s (.s .z))) .n) (.c (.s (.s .z)) (.c (.s .z) .n)) (by kernel_rfl) ⟨rfl,rfl,fun _ _ _ _ hm hs K=>zBa (us:=[]) (v:=zI z3) hs rfl (.c rfl (.c rfl .n)) rfl hcl (hf3 _) rfl (vk K),rfl,⟨rfl,by kernel_rfl,fun _=>rfl,rfl,rfl,trivial⟩,fun _=>rfl,?_⟩
 refine goE 2 [] [9,7,6,4,3,2] .n ⟨by decide,?_⟩
 intro a w hs;refine zAQ ?_
 revert a w hs
 refine go 4 [0,1] [6] (.c (.s (.s (.s .z))) (.c .z .n)) ⟨rfl,rfl,?_⟩
 intro a w hs;exact zLU hs rfl rfl (.s .z) (.z (.c (.c (.c .n)))) isAgg40 sizeOf40 (.c (.s (.s (.s .z))) (.c (.s (.s .z)) (.c (.s .z) (.c .z .n)))) ⟨rfl,rfl⟩
theorem zXR (x1 x2 x3 y1 y2 y3:Int) (hx1 : -9223372036854775808 ≤ x1 ∧ x1 ≤ 9223372036854775807) (hx2 : -9223372036854775808 ≤ x2 ∧ x2 ≤ 9223372036854775807) (hx3 : -9223372036854775808 ≤ x3 ∧ x3 ≤ 9223372036854775807) (hy1 : -9223372036854775808 ≤ y1 ∧ y1 ≤ 9223372036854775807) (hy2 : -9223372036854775808 ≤ y2 ∧ y2 ≤ 9223372036854775807) (hy3 : -9223372036854775808 ≤ y3 ∧ y3 ≤ 9223372036854775807) (w0:World):Calls Tryz.prog 164 #[.agg #[zI x1,zI x2,zI x3],.agg #[zI y1,zI y2,zI y3]] w0 (zAe w0 (.agg #[zI (zCy x1 y1),zI (zCy x2 y2),zI (zCy x3 y3)])):=by
 refine zD (F0:=[(0,.agg #[zI x1,zI x2,zI x3]),(1,.agg #[zI y1,zI y2,zI y3])]) func164 rfl rfl rfl (.c (.c .n)) (Mem.nil _) ?_
 refine go 5 [0,0,2,1] [6,5,4] .n (fun g1=>fun g2=>fun g3=>⟨rfl,rfl,?_⟩)
 intro a w hs;refine zB (v:=.agg #[zI (zCy x1 y1),zI (zCy x2 y2),zI (zCy x3 y3)]) hs (.c rfl (.c rfl (.c rfl .n))) call195 (zP5 118 x1 x2 x3 y1 y2 y3 (zCy x1 y1) (zCy x2 y2) (zCy x3 y3) call118 (zE3 _ _ (by omega) (by omega)) (zE3 _ _ (by omega) (by omega)) (zE3 _ _ (by omega) (by omega)) _) rfl ?_
 refine goL 1 [0] [4] (.c .z .n) ⟨rfl,?_⟩
 intro a w hs;exact zLU hs rfl rfl .z (.z (.c (.c (.c .n)))) isAgg40 sizeOf40 (.c (.s (.s .z)) (.c (.s .z) (.c .z .n))) ⟨rfl,rfl⟩
theorem zSH (x1 x2 x3 k:Int) (hx1 : -9223372036854775808 ≤ x1 ∧ x1 ≤ 9223372036854775807) (hx2 : -9223372036854775808 ≤ x2 ∧ x2 ≤ 9223372036854775807) (hx3 : -9223372036854775808 ≤ x3 ∧ x3 ≤ 9223372036854775807) (hk : -9223372036854775808 ≤ k ∧ k ≤ 9223372036854775807) (w0:World):Calls Tryz.prog 165 #[.agg #[zI x1,zI x2,zI x3],zI k] w0 (zAe w0 (.agg #[zI (zAt x1 k),zI (zAt x2 k),zI (zAt x3 k)])):=by
 refine zD (F0:=[(0,.agg #[zI x1,zI x2,zI x3]),(1,zI k)]) func165 rfl rfl rfl (.c (.c .n)) (Mem.nil _) ?_
 refine go 7 [0,1] [9,5,4] .n (fun g1=>fun g2=>⟨rfl,?_⟩)
 intro a w hs;refine zB (v:=.agg #[zI (zAt x1 k),zI (zAt x2 k),zI (zAt x3 k)]) hs (.c rfl (.c rfl (.c rfl .n))) call195 (zP5 155 x1 x2 x3 k k k (zAt x1 k) (zAt x2 k) (zAt x3 k) call155 (zDK _ _ (by omega) (by omega)) (zDK _ _ (by omega) (by omega)) (zDK _ _ (by omega) (by omega)) _) rfl ?_
 refine goL 1 [0] [4] (.c .z .n) ⟨rfl,?_⟩
 intro a w hs;exact zLU hs rfl rfl .z (.z (.c (.c (.c .n)))) isAgg40 sizeOf40 (.c (.s .z) (.c .z .n)) ⟨rfl,rfl⟩
theorem zaE (x1 x2 x3 y1 y2 y3 k:Int) (hx1 : -9223372036854775808 ≤ x1 ∧ x1 ≤ 9223372036854775807) (hx2 : -9223372036854775808 ≤ x2 ∧ x2 ≤ 9223372036854775807) (hx3 : -9223372036854775808 ≤ x3 ∧ x3 ≤ 9223372036854775807) (hy1 : -9223372036854775808 ≤ y1 ∧ y1 ≤ 9223372036854775807) (hy2 : -9223372036854775808 ≤ y2 ∧ y2 ≤ 9223372036854775807) (hy3 : -9223372036854775808 ≤ y3 ∧ y3 ≤ 9223372036854775807) (hk : -9223372036854775808 ≤ k ∧ k ≤ 9223372036854775807) (w0:World):Calls Tryz.prog 123 #[.agg #[zI x1,zI x2,zI x3],.agg #[zI y1,zI y2,zI y3],zI k] w0 (zAe w0 (.agg #[zI (zCy x1 (zAt y1 k)),zI (zCy x2 (zAt y2 k)),zI (zCy x3 (zAt y3 k))])):=by
 refine zD (F0:=[(0,.agg #[zI x1,zI x2,zI x3]),(1,.agg #[zI y1,zI y2,zI y3]),(2,zI k)]) func123 rfl rfl rfl (.c (.c (.c .n))) (Mem.nil _) ?_
 refine go 3 [0,0] [6,4,3,2] .n (fun g1=>fun g2=>fun g3=>?_)
 intro a w hs
 refine zR [.p [] [0],.p [] [1],.p [] [],.v [2,1] (.agg #[zI (zAt y1 k),zI (zAt y2 k),zI (zAt y3 k)]),.v [3,0] (.agg #[zI (zCy x1 (zAt y1 k)),zI (zCy x2 (zAt y2 k)),zI (zCy x3 (zAt y3 k))]),.s [4] [0] [0] []] [] hs (.c .z .n) (.c (.s .z) (.c .z .n)) (by kernel_rfl) ⟨rfl,rfl,fun _ _ _ _ hm hs K=>zB (v:=.agg #[zI (zAt y1 k),zI (zAt y2 k),zI (zAt y3 k)]) hs (.c rfl (.c rfl .n)) call165 (zSH y1 y2 y3 k (by omega) (by omega) (by omega) (by omega) _) rfl (vk K),fun _ _ _ _ hm hs K=>zB (v:=.agg #[zI (zCy x1 (zAt y1 k)),zI (zCy x2 (zAt y2 k)),zI (zCy x3 (zAt y3 k))]) hs (.c rfl (.c rfl .n)) call164 (zXR x1 x2 x3 (zAt y1 k) (zAt y2 k) (zAt y3 k) (by omega) (by omega) (by omega) (zCe _ _) (zCe _ _) (zCe _ _) _) rfl (vk K),rfl,⟨rfl,by kernel_rfl,fun _=>rfl,rfl,rfl,trivial⟩,fun _=>rfl,?_⟩
 refine goE 0 [] [6] .n ?_
 intro a w hs;exact zLU hs rfl rfl (.s (.s .z)) (.z (.c (.c (.c .n)))) isAgg40 sizeOf40 (.c (.s (.s .z)) (.c (.s .z) (.c .z .n))) ⟨rfl,rfl⟩
theorem zIF (x y n d:Int) (hx : -9223372036854775808 ≤ x ∧ x ≤ 9223372036854775807) (hy : -9223372036854775808 ≤ y ∧ y ≤ 9223372036854775807) (u1 u2:Nat) (w0:World) (hu1:(blk u1 [.int .i64 n] 2).p w0) (hu2:(blk u2 [.int .i64 d] 2).p w0):Calls Tryz.prog 258 #[zI x,zI y,pt u1 0,pt u2 0] w0 (zAe w0 (zI (bif zBc n d == 0 then zC3 x y n d else 0))):=by
 refine zD (F0:=[(0,zI x),(1,zI y),(2,pt u1 0),(3,pt u2 0)]) func258 rfl rfl rfl (.c (.c (.c (.c .n)))) (Mem.nil _) ?_
 refine go 3 [] [11,10,2,3] .n ?_
 intro a w hs;refine zU hs rfl (hs.mem.keep hu1 (by simp [zL,blk])) .z isAgg2 rfl ?_
 intro a w hs;refine zU hs rfl (hs.mem.keep hu2 (by simp [zL,blk])) .z isAgg2 rfl ?_
 intro a w hs;refine zB (v:=.tuple #[zI (bif zBc n d == 0 then zC3 x y n d else 0),nI (zBc n d)]) hs (.c rfl (.c rfl (.c rfl (.c rfl .n)))) call166 (zOq x y n d (by omega) (by omega) _) rfl ?_
 refine goL 7 [] [6] .n ?_
 intro a w hs;exact fin hs rfl rfl ⟨rfl,rfl⟩
theorem zVJ (f:FuncId) (x1 x2 x3 y1 y2 y3 z1 z2 z3 n d:Int) (u1 u2:Nat) (hcl:∀ args w,(callFunc f args).run Tryz.prog w = .ok (.enter f args) w) (hf1:∀ w0,(blk u1 [.int .i64 n] 2).p w0 → (blk u2 [.int .i64 d] 2).p w0 → Calls Tryz.prog f #[zI x1,zI y1,pt u1 0,pt u2 0] w0 (zAe w0 (zI z1))) (hf2:∀ w0,(blk u1 [.int .i64 n] 2).p w0 → (blk u2 [.int .i64 d] 2).p w0 → Calls Tryz.prog f #[zI x2,zI y2,pt u1 0,pt u2 0] w0 (zAe w0 (zI z2))) (hf3:∀ w0,(blk u1 [.int .i64 n] 2).p w0 → (blk u2 [.int .i64 d] 2).p w0 → Calls Tryz.prog f #[zI x3,zI y3,pt u1 0,pt u2 0] w0 (zAe w0 (zI z3))) (w0:World) (hu1:(blk u1 [.int .i64 n] 2).p w0) (hu2:(blk u2 [.int .i64 d] 2).p w0):Calls Tryz.prog 195 #[.agg #[zI x1,zI x2,zI x3],.agg #[zI y1,zI y2,zI y3],.func (.func f) #[] #[pt u1 0,pt u2 0]] w0 (zAe w0 (.agg #[zI z1,zI z2,zI z3])):=by
 refine zD (F0:=[(0,.agg #[zI x1,zI x2,zI x3]),(1,.agg #[zI y1,zI y2,zI y3]),(2,.func (.func f) #[] #[pt u1 0,pt u2 0])]) func195 rfl rfl rfl (.c (.c (.c .n))) (Mem.nil _) ?_
 refine go 5 [0,0] [9,7,6,4,3,2] .n (fun g1=>fun g2=>fun g3=>fun g4=>?_)
 intro a w hs;refine zCX 3 ?_
 revert a w hs
 refine go 4 [] [8,9,7,6,4,3,2] .n ?_
 intro a w hs
 refine zR [.p [] [],.p [] [],.p [] [],.p [2] [],.p [3] [0],.p [] [],.p [5] [],.p [6] [1],.v [7,4,1] (zI z1),.p [0] [],.s [9,8] [0] [0] []] [] hs (.c .z .n) (.c (.s (.s .z)) (.c (.s .z) .n)) (by kernel_rfl) ⟨rfl,rfl,fun _ _ _ _ hm hs K=>zBa (us:=[pt u1 0,pt u2 0]) (v:=zI z1) hs rfl (.c rfl (.c rfl .n)) rfl hcl (hf1 _ (hm.keep hu1 (by simp [zL,blk])) (hm.keep hu2 (by simp [zL,blk]))) rfl (vk K),rfl,⟨rfl,by kernel_rfl,fun _=>rfl,rfl,rfl,trivial⟩,fun _=>rfl,?_⟩
 refine goE 2 [] [9,7,6,4,3,2] .n ⟨by decide,?_⟩
 intro a w hs;refine zAQ ?_
 revert a w hs
 refine go 4 [] [8,9,7,6,4,3,2] .n ?_
 intro a w hs
 refine zR [.p [] [],.p [] [],.p [] [],.p [2] [],.p [3] [0],.p [] [],.p [5] [],.p [6] [1],.v [7,4,1] (zI z2),.p [0] [],.s [9,8] [0] [0] []] [] hs (.c (.s (.s (.s .z))) .n) (.c (.s (.s .z)) (.c (.s .z) .n)) (by kernel_rfl) ⟨rfl,rfl,fun _ _ _ _ hm hs K=>zBa (us:=[pt u1 0,pt u2 0]) (v:=zI z2) hs rfl (.c rfl (.c rfl .n)) rfl hcl (hf2 _ (hm.keep hu1 (by simp [zL,blk])) (hm.keep hu2 (by simp [zL,blk]))) rfl (vk K),rfl,⟨rfl,by kernel_rfl,fun _=>rfl,rfl,rfl,trivial⟩,fun _=>rfl,?_⟩
 refine goE 2 [] [9,7,6,4,3,2] .n ⟨by decide,?_⟩
 intro a w hs;refine zAQ ?_
 revert a w hs
 refine go 4 [] [8,9,7,6,4,3,2] .n ?_
 intro a w hs
 refine zR [.p [] [],.p [] [],.p [] [],.p [2] [],.p [3] [0],.p [] [],.p [5] [],.p [6] [1],.v [7,4,1] (zI z3),.p [0] [],.s [9,8] [0] [0] []] [] hs (.c (.s (.s (.s .z))) .n) (.c (.s (.s .z)) (.c (.s .z) .n)) (by kernel_rfl) ⟨rfl,rfl,fun _ _ _ _ hm hs K=>zBa (us:=[pt u1 0,pt u2 0]) (v:=zI z3) hs rfl (.c rfl (.c rfl .n)) rfl hcl (hf3 _ (hm.keep hu1 (by simp [zL,blk])) (hm.keep hu2 (by simp [zL,blk]))) rfl (vk K),rfl,⟨rfl,by kernel_rfl,fun _=>rfl,rfl,rfl,trivial⟩,fun _=>rfl,?_⟩
 refine goE 2 [] [9,7,6,4,3,2] .n ⟨by decide,?_⟩
 intro a w hs;refine zAQ ?_
 revert a w hs
 refine go 4 [0,1] [6] (.c (.s (.s (.s .z))) (.c .z .n)) ⟨rfl,rfl,?_⟩
 intro a w hs;exact zLU hs rfl rfl (.s .z) (.z (.c (.c (.c .n)))) isAgg40 sizeOf40 (.c (.s (.s (.s .z))) (.c (.s (.s .z)) (.c (.s .z) (.c .z .n)))) ⟨rfl,rfl⟩
theorem zUp (x1 x2 x3 y1 y2 y3 n d:Int) (hx1 : -9223372036854775808 ≤ x1 ∧ x1 ≤ 9223372036854775807) (hx2 : -9223372036854775808 ≤ x2 ∧ x2 ≤ 9223372036854775807) (hx3 : -9223372036854775808 ≤ x3 ∧ x3 ≤ 9223372036854775807) (hy1 : -9223372036854775808 ≤ y1 ∧ y1 ≤ 9223372036854775807) (hy2 : -9223372036854775808 ≤ y2 ∧ y2 ≤ 9223372036854775807) (hy3 : -9223372036854775808 ≤ y3 ∧ y3 ≤ 9223372036854775807) (w0:World):Calls Tryz.prog 257 #[.agg #[zI x1,zI x2,zI x3],.agg #[zI y1,zI y2,zI y3],zI n,zI d] w0 (zAe w0 (.tuple #[.agg #[zI (bif zBc n d == 0 then zC3 x1 y1 n d else 0),zI (bif zBc n d == 0 then zC3 x2 y2 n d else 0),zI (bif zBc n d == 0 then zC3 x3 y3 n d else 0)],nI (zBc n d)])):=by
 refine zD (F0:=[(0,.agg #[zI x1,zI x2,zI x3]),(1,.agg #[zI y1,zI y2,zI y3]),(2,zI n),(3,zI d)]) func257 rfl rfl rfl (.c (.c (.c (.c .n)))) (Mem.nil _) ?_
 refine go 8 [0,0,0,0,2,1] [14,13,8,7,6,5,4] .n (fun g1=>fun g2=>fun g3=>fun g4=>fun g5=>⟨rfl,rfl,?_⟩)
 intro a w hs;refine zB (v:=.tuple #[zI (bif zBc n d == 0 then zBm n d else 0),nI (zBc n d)]) hs (.c rfl (.c rfl .n)) call252 (zON n d _) rfl ?_
 refine goL 7 [] [19,11,8,7,6,5,4] .n ?_
 refine ifG rfl (fun c_6=>?_) (fun c_6=>?_)
 ·
  have hbad:=zIN (by assumption)
  refine go 4 [0] [9,8] (.c .z .n) ⟨rfl,?_⟩
  intro a w hs;exact zBJ hs rfl rfl rfl .z (.z (.c (.c (.c .n)))) isAgg40 sizeOf40 (.c (.s (.s (.s (.s .z)))) (.c (.s (.s (.s .z))) (.c (.s (.s .z)) (.c (.s .z) (.c .z .n))))) ⟨zQI hbad _ _ _,rfl⟩
 have hc0:=zCv (by assumption)
 refine go 3 [0,1] [24,23,22,8] (.c (.s (.s (.s (.s .z)))) (.c (.s (.s (.s .z))) .n)) ⟨rfl,rfl,?_⟩
 intro a w hs;refine zB (v:=.agg #[zI (bif zBc n d == 0 then zC3 x1 y1 n d else 0),zI (bif zBc n d == 0 then zC3 x2 y2 n d else 0),zI (bif zBc n d == 0 then zC3 x3 y3 n d else 0)]) hs (.c rfl (.c rfl (.c rfl .n))) call195 (zVJ 258 x1 x2 x3 y1 y2 y3 (bif zBc n d == 0 then zC3 x1 y1 n d else 0) (bif zBc n d == 0 then zC3 x2 y2 n d else 0) (bif zBc n d == 0 then zC3 x3 y3 n d else 0) n d g3 g4 call258 (fun w h1 h2=>zIF _ _ _ _ (by omega) (by omega) _ _ w h1 h2) (fun w h1 h2=>zIF _ _ _ _ (by omega) (by omega) _ _ w h1 h2) (fun w h1 h2=>zIF _ _ _ _ (by omega) (by omega) _ _ w h1 h2) _ (hs.mem.del (.s (.s (.s (.s .z))))) (hs.mem.del (.s (.s (.s .z))))) rfl ?_
 refine goL 2 [0] [9,8] (.c (.s (.s .z)) .n) ⟨rfl,?_⟩
 intro a w hs;exact zBJ hs rfl rfl rfl .z (.z (.c (.c (.c .n)))) isAgg40 sizeOf40 (.c (.s (.s (.s (.s .z)))) (.c (.s (.s (.s .z))) (.c (.s (.s .z)) (.c (.s .z) (.c .z .n))))) ⟨by rw [hc0];rfl,rfl⟩
end Go.Proofs.YtajjkegcfmhghaaGreat
/- Walks of the curve: what each function does, over the program of this seat. Printed by a program of this session. -/
namespace Go.Proofs.YtajjkegcfmhghaaGreat
open Tryz
open Go Go.Sx Go.RowKit
set_option linter.unusedVariables false
set_option linter.unusedSimpArgs false
set_option maxRecDepth 4000
set_option maxHeartbeats 1000000

theorem zbf (t:Int) (h:0 ≤ t ∧ t ≤ 65536) (w0:World):Calls Tryz.prog 253 #[zI t] w0 (zAe w0 (.agg #[zI (cW1 t),zI (cW2 t),zI (cW3 t)])):=by
 refine zD (F0:=[(0,zI t)]) func253 rfl rfl rfl (.c .n) (Mem.nil _) ?_
 refine go 3 [] [6,5,2,0] .n (fun g1=>?_)
 intro a w hs;refine zB (v:=zI (zAt t t)) hs (.c rfl (.c rfl .n)) call155 (zDK t t (by omega) (by omega) _) rfl ?_
 have h2:=zHh h h
 have h3:=zHh h2 h
 refine goL 3 [] [9,8,3,2,0] .n ?_
 intro a w hs;refine zB (v:=zI (zAt (zAt t t) t)) hs (.c rfl (.c rfl .n)) call155 (zDK (zAt t t) t (zCe _ _) (by omega) _) rfl ?_
 refine goL 17 [0] [2] (.c .z .n) ⟨(by omega),(by omega),(by omega),(by omega),(by omega),(by omega),(by omega),rfl,?_⟩
 intro a w hs;exact zLU hs rfl rfl .z (.z (.c (.c (.c .n)))) isAgg348 sizeOf348 (.c .z .n) ⟨rfl,rfl⟩
theorem zXP (x p1 q1 p2 q2 p3 q3:Int) (hx : -9223372036854775808 ≤ x ∧ x ≤ 9223372036854775807) (hp1 : -9223372036854775808 ≤ p1 ∧ p1 ≤ 9223372036854775807) (hq1 : -9223372036854775808 ≤ q1 ∧ q1 ≤ 9223372036854775807) (hp2 : -9223372036854775808 ≤ p2 ∧ p2 ≤ 9223372036854775807) (hq2 : -9223372036854775808 ≤ q2 ∧ q2 ≤ 9223372036854775807) (hp3 : -9223372036854775808 ≤ p3 ∧ p3 ≤ 9223372036854775807) (hq3 : -9223372036854775808 ≤ q3 ∧ q3 ≤ 9223372036854775807) (v:Value) (w0:World) (hb:Rd w0 [] v 2 3 [zI p1,zI q1,zI p2,zI q2,zI p3,zI q3]):Calls Tryz.prog 254 #[.int .i64 x,v] w0 (zAe w0 (zI (zZ1 x p1 q1 p2 q2 p3 q3))):=by
 refine zD (F0:=[(0,zI x),(1,v)]) func254 rfl rfl rfl (.c (.c .n)) (Mem.nil _) ?_
 refine go 2 [] [7,0] .n ?_
 intro a w hs;refine zAE hs rfl (hs.rd0 hb).isSl underlying353 rfl ?_
 refine cl (·.recell (v':=zI 3) (Option.some.inj rfl)) ?_
 refine goL 1 [] [9,8,7,0] .n ?_
 intro a w hs;refine zCX 3 ?_
 revert a w hs
 refine go 2 [] [9,8,7,0] .n ?_
 intro a w hs;refine zBh (j:=0) hs rfl rfl (hs.rd0 hb) (by decide) (by omega) underlying353 sizeOf352 rfl ?_
 intro a w hs;refine zBC (cs:=[zI p1,zI q1]) hs rfl (hs.rd0 hb) (by rfl) (by simp) (by decide) isAgg352 sizeOf352 rfl ?_
 refine goL 7 [0,0,0] [17,15,13,9,8,7] .n (fun g1=>⟨rfl,rfl,rfl,?_⟩)
 intro a w hs;refine zB (v:=zI (zAt p1 q1)) hs (.c rfl (.c rfl .n)) call155 (zDK p1 q1 (by omega) (by omega) _) rfl ?_
 intro a w hs;refine zB (v:=zI (zCy x (zAt p1 q1))) hs (.c rfl (.c rfl .n)) call118 (zE3 x (zAt p1 q1) (by omega) (zCe _ _) _) rfl ?_
 refine goL 3 [] [9,0,8,7] .n ⟨by decide,?_⟩
 intro a w hs;refine zAQ ?_
 revert a w hs
 refine go 2 [] [9,0,8,7] .n ?_
 intro a w hs;refine zBh (j:=1) hs rfl rfl (hs.rd0 hb) (by decide) (by omega) underlying353 sizeOf352 rfl ?_
 intro a w hs;refine zBC (cs:=[zI p2,zI q2]) hs rfl (hs.rd0 hb) (by rfl) (by simp) (by decide) isAgg352 sizeOf352 rfl ?_
 refine goL 7 [0,0,0] [17,15,13,9,8,7] .n (fun g2=>⟨rfl,rfl,rfl,?_⟩)
 intro a w hs;refine zB (v:=zI (zAt p2 q2)) hs (.c rfl (.c rfl .n)) call155 (zDK p2 q2 (by omega) (by omega) _) rfl ?_
 intro a w hs;refine zB (v:=zI (zCy (zCy x (zAt p1 q1)) (zAt p2 q2))) hs (.c rfl (.c rfl .n)) call118 (zE3 (zCy x (zAt p1 q1)) (zAt p2 q2) (zKU _ _) (zCe _ _) _) rfl ?_
 refine goL 3 [] [9,0,8,7] .n ⟨by decide,?_⟩
 intro a w hs;refine zAQ ?_
 revert a w hs
 refine go 2 [] [9,0,8,7] .n ?_
 intro a w hs;refine zBh (j:=2) hs rfl rfl (hs.rd0 hb) (by decide) (by omega) underlying353 sizeOf352 rfl ?_
 intro a w hs;refine zBC (cs:=[zI p3,zI q3]) hs rfl (hs.rd0 hb) (by rfl) (by simp) (by decide) isAgg352 sizeOf352 rfl ?_
 refine goL 7 [0,0,0] [17,15,13,9,8,7] .n (fun g3=>⟨rfl,rfl,rfl,?_⟩)
 intro a w hs;refine zB (v:=zI (zAt p3 q3)) hs (.c rfl (.c rfl .n)) call155 (zDK p3 q3 (by omega) (by omega) _) rfl ?_
 intro a w hs;refine zB (v:=zI (zCy (zCy (zCy x (zAt p1 q1)) (zAt p2 q2)) (zAt p3 q3))) hs (.c rfl (.c rfl .n)) call118 (zE3 (zCy (zCy x (zAt p1 q1)) (zAt p2 q2)) (zAt p3 q3) (zKU _ _) (zCe _ _) _) rfl ?_
 refine goL 3 [] [9,0,8,7] .n ⟨by decide,?_⟩
 intro a w hs;refine zAQ ?_
 revert a w hs
 refine go 4 [] [4] .n ?_
 refine cl (·.drop (.c (.s (.s .z)) (.c (.s .z) (.c .z .n)))) ?_
 intro a w hs;exact fin hs rfl rfl ⟨rfl,rfl⟩
theorem zRp (x u y v n d:Int) (hx : -9223372036854775808 ≤ x ∧ x ≤ 9223372036854775807) (hu : -9223372036854775808 ≤ u ∧ u ≤ 9223372036854775807) (hy : -9223372036854775808 ≤ y ∧ y ≤ 9223372036854775807) (hv : -9223372036854775808 ≤ v ∧ v ≤ 9223372036854775807) (w0:World):Calls Tryz.prog 251 #[zI x,zI u,zI y,zI v,zI n,zI d] w0 (zAe w0 (.tuple #[zI (bif zBc n d == 0 then cAt x u y v n d else 0),nI (zBc n d)])):=by
 refine zD (F0:=[(0,zI x),(1,zI u),(2,zI y),(3,zI v),(4,zI n),(5,zI d)]) func251 rfl rfl rfl (.c (.c (.c (.c (.c (.c .n)))))) (Mem.nil _) ?_
 refine go 4 [] [20,19,0,1,2,3,4,5] .n ?_
 intro a w hs;refine zB (v:=.tuple #[zI (bif zBc n d == 0 then zBm n d else 0),nI (zBc n d)]) hs (.c rfl (.c rfl .n)) call252 (zON n d _) rfl ?_
 refine goL 8 [] [24,15,14,0,1,2,3,4,5] .n ?_
 refine ifG rfl (fun c_1=>?_) (fun c_1=>?_)
 ·
  have hbad:=zIN (by assumption)
  refine go 3 [] [13,12] .n ?_
  intro a w hs;exact zBK hs rfl rfl rfl ⟨zRQ hbad _,rfl⟩
 have hc0:=zCv (by assumption)
 have hp:=zSf hc0
 have hc1:=zFs hc0
 obtain ⟨hw1,hw2,hw3⟩:=zaM hp
 intro a w hs;rw [hc0] at hs;simp only [beq_self_eq_true,cond_true] at hs
 revert a w hs
 refine go 3 [] [28,14,0,1,2,3,4,5] .n ?_
 refine ifG rfl (fun c_2=>?_) (fun c_2=>?_)
 ·
  refine go 3 [] [13,12] .n ?_
  intro a w hs;exact zBK hs rfl rfl rfl ⟨zFh hc0 (zb9 (by assumption)),rfl⟩
 refine go 4 [] [32,14,0,1,2,3,5] .n ?_
 refine ifG rfl (fun c_3=>?_) (fun c_3=>?_)
 ·
  refine go 3 [] [13,12] .n ?_
  intro a w hs;exact zBK hs rfl rfl rfl ⟨zFh hc0 (zcP (by assumption) (by assumption)),rfl⟩
 refine go 1 [] [37,0,1,2,3,5] .n ?_
 intro a w hs;refine zB (v:=.agg #[zI (cW1 (zBm n d)),zI (cW2 (zBm n d)),zI (cW3 (zBm n d))]) hs (.c rfl .n) call253 (zbf (zBm n d) (by omega) _) rfl ?_
 refine goL 2 [0] [16,0,1,2,3,5] .n (fun g4=>⟨rfl,?_⟩)
 intro a w hs
 refine zAU [.p [] [],.p [] [],.p [1] [0],.p [] [],.p [] [],.v [4,3] (zI (zBQ y x)),.p [5,2] [],.p [] [],.p [7] [0],.p [] [],.p [] [],.v [10,9] (zI (zAt u d)),.p [11,8] [],.p [] [],.p [13] [0],.p [] [],.p [] [],.v [16,15] (zI (zAt v d)),.p [17,14] [],.x [18,12,6] ⟨[],[],[],fun vs5=>vs5 19 = .slice (some ⟨(zCx (vs5 19)),0,none⟩) 3 3,fun vs5=>[blk (zCx (vs5 19)) [zI (cW1 (zBm n d)),zI (zBQ y x),zI (cW2 (zBm n d)),zI (zAt u d),zI (cW3 (zBm n d)),zI (zAt v d)] 352],none⟩,.y [0] (zI (zZ1 x (cW1 (zBm n d)) (zBQ y x) (cW2 (zBm n d)) (zAt u d) (cW3 (zBm n d)) (zAt v d))) [] [] [] fun vs5=>[],.p [20] []] [21] hs .n .n (.c .z .n) (by kernel_rfl) ⟨rfl,fun _ _ _ _ hm hs K=>zB (v:=zI (zBQ y x)) hs (.c rfl (.c rfl .n)) call65 (zFn y x (by omega) (by omega) _) rfl (vk K),rfl,fun _ _ _ _ hm hs K=>zB (v:=zI (zAt u d)) hs (.c rfl (.c rfl .n)) call155 (zDK u d (by omega) (by omega) _) rfl (vk K),rfl,fun _ _ _ _ hm hs K=>zB (v:=zI (zAt v d)) hs (.c rfl (.c rfl .n)) call155 (zDK v d (by omega) (by omega) _) rfl (vk K),⟨.n,by kernel_rfl,fun _=>rfl,rfl,rfl⟩,⟨?_,?_,trivial⟩,?_⟩
 ·
  intro a_ w_ R_ rest_ vs5 hm hs ht hx
  have hs0:=hs.bare
  refine zIR (cs:=[zI (cW1 (zBm n d)),zI (zBQ y x),zI (cW2 (zBm n d)),zI (zAt u d),zI (cW3 (zBm n d)),zI (zAt v d)]) hs (.c (.c (.c .n))) (.c rfl (.c rfl (.c rfl .n))) underlying353 (ie:=Tryz.t352) rfl rfl rfl rfl (by decide) (by decide) rfl (by decide) rfl rfl rfl ?_;clear hs;intro g6 a w hs
  exact wpList_nil ⟨rfl,_,_,hs0,(.c (.c (.c .r))),hs,rfl⟩
 ·
  intro a_ w_ R_ rest_ vs5 hm hs ht hx
  have t19:=ht 19 (zJ 22 _ (by kernel_rfl))
  have e19:_ = some (vs5 19):=t19.val rfl
  rw [show vs5 19 = .slice (some ⟨(zCx (vs5 19)),0,none⟩) 3 3 from t19.2.1] at e19
  replace hs:=hs.learn e19
  have hs0:=hs.bare
  refine zB (v:=zI (zZ1 x (cW1 (zBm n d)) (zBQ y x) (cW2 (zBm n d)) (zAt u d) (cW3 (zBm n d)) (zAt v d))) hs (.c rfl (.c rfl .n)) call254 (zXP x (cW1 (zBm n d)) (zBQ y x) (cW2 (zBm n d)) (zAt u d) (cW3 (zBm n d)) (zAt v d) (by omega) (by omega) (zB3 _ _) (by omega) (zCe _ _) (by omega) (zCe _ _) (.slice (some ⟨(zCx (vs5 19)),0,none⟩) 3 3) _ (zAF (m:=3) (size:=2) (hm.own (List.mem_append.2 (.inr ((ht 19 (zJ 22 _ (by kernel_rfl))).2.2 (zIG (n:=22) (by kernel_rfl)) _ (List.Mem.head _))))) rfl (by decide))) rfl ?_;clear hs;intro a w hs
  exact wpList_nil ⟨rfl,_,_,hs0,(.c (.c .r)),hs,rfl⟩
 clear hs w a;intro vs5 a w hs hf
 generalize zCx (vs5 19) = g7 at hs
 clear hf
 revert a w hs
 refine goE 3 [] [62,61,60] .n ?_
 intro a w hs;refine zB (v:=zI (zHA (zZ1 x (cW1 (zBm n d)) (zBQ y x) (cW2 (zBm n d)) (zAt u d) (cW3 (zBm n d)) (zAt v d)) x y)) hs (.c rfl (.c rfl (.c rfl .n))) call54 (zK6 (zZ1 x (cW1 (zBm n d)) (zBQ y x) (cW2 (zBm n d)) (zAt u d) (cW3 (zBm n d)) (zAt v d)) x y _) rfl ?_
 refine goL 2 [] [13,12] .n ?_
 refine cl (·.drop (.c (.s .z) (.c .z .n))) ?_
 intro a w hs;exact zBK hs rfl rfl rfl ⟨zFh hc0 (zcS (by assumption) (by assumption)),rfl⟩
theorem zY6 (x1 x2 x3 u1 u2 u3 y1 y2 y3 v1 v2 v3 n d:Int) (hx1 : -9223372036854775808 ≤ x1 ∧ x1 ≤ 9223372036854775807) (hx2 : -9223372036854775808 ≤ x2 ∧ x2 ≤ 9223372036854775807) (hx3 : -9223372036854775808 ≤ x3 ∧ x3 ≤ 9223372036854775807) (hu1 : -9223372036854775808 ≤ u1 ∧ u1 ≤ 9223372036854775807) (hu2 : -9223372036854775808 ≤ u2 ∧ u2 ≤ 9223372036854775807) (hu3 : -9223372036854775808 ≤ u3 ∧ u3 ≤ 9223372036854775807) (hy1 : -9223372036854775808 ≤ y1 ∧ y1 ≤ 9223372036854775807) (hy2 : -9223372036854775808 ≤ y2 ∧ y2 ≤ 9223372036854775807) (hy3 : -9223372036854775808 ≤ y3 ∧ y3 ≤ 9223372036854775807) (hv1 : -9223372036854775808 ≤ v1 ∧ v1 ≤ 9223372036854775807) (hv2 : -9223372036854775808 ≤ v2 ∧ v2 ≤ 9223372036854775807) (hv3 : -9223372036854775808 ≤ v3 ∧ v3 ≤ 9223372036854775807) (w0:World):Calls Tryz.prog 250 #[.agg #[zI x1,zI x2,zI x3],.agg #[zI u1,zI u2,zI u3],.agg #[zI y1,zI y2,zI y3],.agg #[zI v1,zI v2,zI v3],zI n,zI d] w0 (zAe w0 (.tuple #[.agg #[zI (bif zBc n d == 0 then cAt x1 u1 y1 v1 n d else 0),zI (bif zBc n d == 0 then cAt x2 u2 y2 v2 n d else 0),zI (bif zBc n d == 0 then cAt x3 u3 y3 v3 n d else 0)],nI (zBc n d)])):=by
 refine zD (F0:=[(0,.agg #[zI x1,zI x2,zI x3]),(1,.agg #[zI u1,zI u2,zI u3]),(2,.agg #[zI y1,zI y2,zI y3]),(3,.agg #[zI v1,zI v2,zI v3]),(4,zI n),(5,zI d)]) func250 rfl rfl rfl (.c (.c (.c (.c (.c (.c .n)))))) (Mem.nil _) ?_
 refine go 8 [0,0,0,0] [18,14,12,9,8,7,6,4,5] .n (fun g1=>fun g2=>fun g3=>fun g4=>fun g5=>fun g6=>?_)
 intro a w hs;refine zCX 3 ?_
 revert a w hs
 refine go 4 [] [15,18,14,12,9,8,7,6,4,5] .n ?_
 intro a w hs
 refine zR [.p [] [],.p [0] [],.p [1] [0],.p [] [],.p [3] [],.p [4] [1],.p [] [],.p [6] [],.p [7] [2],.p [] [],.p [9] [],.p [10] [3],.p [] [],.p [] [],.v [13,12,11,8,5,2] (.tuple #[zI (bif zBc n d == 0 then cAt x1 u1 y1 v1 n d else 0),nI (zBc n d)]),.p [14] [],.p [15] [],.p [15] [],.p [16] [],.p [17] []] [18,19] hs .n (.c (.s (.s (.s (.s (.s .z))))) (.c (.s (.s (.s (.s .z)))) (.c (.s (.s (.s .z))) (.c (.s (.s .z)) .n)))) (by kernel_rfl) ⟨rfl,rfl,rfl,rfl,fun _ _ _ _ hm hs K=>zB (v:=.tuple #[zI (bif zBc n d == 0 then cAt x1 u1 y1 v1 n d else 0),nI (zBc n d)]) hs (.c rfl (.c rfl (.c rfl (.c rfl (.c rfl (.c rfl .n)))))) call251 (zRp x1 u1 y1 v1 n d (by omega) (by omega) (by omega) (by omega) _) rfl (vk K),⟨rfl,by kernel_rfl,fun _=>rfl,rfl,rfl,trivial⟩,fun _=>rfl,?_⟩
 refine goE 2 [] [40,17,16,15,18,14,12,9,8,7,6,4,5] .n ?_
 refine ifG rfl (fun c_8=>?_) (fun c_8=>?_)
 ·
  have hbad:=zIN (by assumption)
  refine go 4 [0] [13,12] (.c (.s .z) .n) ⟨rfl,?_⟩
  intro a w hs;exact zBJ hs rfl rfl rfl .z (.z (.c (.c (.c .n)))) isAgg40 sizeOf40 (.c (.s (.s (.s (.s (.s .z))))) (.c (.s (.s (.s (.s .z)))) (.c (.s (.s (.s .z))) (.c (.s (.s .z)) (.c (.s .z) (.c .z .n)))))) ⟨zQI hbad _ _ _,rfl⟩
 have hc0:=zCv (by assumption)
 intro a w hs;rw [hc0] at hs;simp only [beq_self_eq_true,cond_true] at hs
 revert a w hs
 refine go 6 [0] [18,14,12,9,8,7,6,4,5] (.c .z .n) ⟨rfl,by decide,?_⟩
 intro a w hs;refine zAQ ?_
 revert a w hs
 refine go 4 [] [15,18,14,12,9,8,7,6,4,5] .n ?_
 intro a w hs
 refine zR [.p [] [],.p [0] [],.p [1] [0],.p [] [],.p [3] [],.p [4] [1],.p [] [],.p [6] [],.p [7] [2],.p [] [],.p [9] [],.p [10] [3],.p [] [],.p [] [],.v [13,12,11,8,5,2] (.tuple #[zI (bif zBc n d == 0 then cAt x2 u2 y2 v2 n d else 0),nI (zBc n d)]),.p [14] [],.p [15] [],.p [15] [],.p [16] [],.p [17] []] [18,19] hs .n (.c (.s (.s (.s (.s (.s .z))))) (.c (.s (.s (.s (.s .z)))) (.c (.s (.s (.s .z))) (.c (.s (.s .z)) .n)))) (by kernel_rfl) ⟨rfl,rfl,rfl,rfl,fun _ _ _ _ hm hs K=>zB (v:=.tuple #[zI (bif zBc n d == 0 then cAt x2 u2 y2 v2 n d else 0),nI (zBc n d)]) hs (.c rfl (.c rfl (.c rfl (.c rfl (.c rfl (.c rfl .n)))))) call251 (zRp x2 u2 y2 v2 n d (by omega) (by omega) (by omega) (by omega) _) rfl (vk K),⟨rfl,by kernel_rfl,fun _=>rfl,rfl,rfl,trivial⟩,fun _=>rfl,?_⟩
 refine goE 2 [] [40,17,16,15,18,14,12,9,8,7,6,4,5] .n ?_
 refine ifG rfl (fun c_10=>?_) (fun c_10=>?_)
 ·
  exfalso;omega
 intro a w hs;rw [hc0] at hs;simp only [beq_self_eq_true,cond_true] at hs
 revert a w hs
 refine go 6 [0] [18,14,12,9,8,7,6,4,5] (.c .z .n) ⟨rfl,by decide,?_⟩
 intro a w hs;refine zAQ ?_
 revert a w hs
 refine go 4 [] [15,18,14,12,9,8,7,6,4,5] .n ?_
 intro a w hs
 refine zR [.p [] [],.p [0] [],.p [1] [0],.p [] [],.p [3] [],.p [4] [1],.p [] [],.p [6] [],.p [7] [2],.p [] [],.p [9] [],.p [10] [3],.p [] [],.p [] [],.v [13,12,11,8,5,2] (.tuple #[zI (bif zBc n d == 0 then cAt x3 u3 y3 v3 n d else 0),nI (zBc n d)]),.p [14] [],.p [15] [],.p [15] [],.p [16] [],.p [17] []] [18,19] hs .n (.c (.s (.s (.s (.s (.s .z))))) (.c (.s (.s (.s (.s .z)))) (.c (.s (.s (.s .z))) (.c (.s (.s .z)) .n)))) (by kernel_rfl) ⟨rfl,rfl,rfl,rfl,fun _ _ _ _ hm hs K=>zB (v:=.tuple #[zI (bif zBc n d == 0 then cAt x3 u3 y3 v3 n d else 0),nI (zBc n d)]) hs (.c rfl (.c rfl (.c rfl (.c rfl (.c rfl (.c rfl .n)))))) call251 (zRp x3 u3 y3 v3 n d (by omega) (by omega) (by omega) (by omega) _) rfl (vk K),⟨rfl,by kernel_rfl,fun _=>rfl,rfl,rfl,trivial⟩,fun _=>rfl,?_⟩
 refine goE 2 [] [40,17,16,15,18,14,12,9,8,7,6,4,5] .n ?_
 refine ifG rfl (fun c_12=>?_) (fun c_12=>?_)
 ·
  exfalso;omega
 intro a w hs;rw [hc0] at hs;simp only [beq_self_eq_true,cond_true] at hs
 revert a w hs
 refine go 6 [0] [18,14,12,9,8,7,6,4,5] (.c .z .n) ⟨rfl,by decide,?_⟩
 intro a w hs;refine zAQ ?_
 revert a w hs
 refine go 5 [0,1] [13,12] (.c .z (.c .z .n)) ⟨rfl,rfl,?_⟩
 intro a w hs;exact zBJ hs rfl rfl rfl (.s .z) (.z (.c (.c (.c .n)))) isAgg40 sizeOf40 (.c (.s (.s (.s (.s (.s .z))))) (.c (.s (.s (.s (.s .z)))) (.c (.s (.s (.s .z))) (.c (.s (.s .z)) (.c (.s .z) (.c .z .n)))))) ⟨zTW hc0,rfl⟩
end Go.Proofs.YtajjkegcfmhghaaGreat
