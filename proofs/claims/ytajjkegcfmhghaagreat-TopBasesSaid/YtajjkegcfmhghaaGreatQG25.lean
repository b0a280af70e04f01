import Derived.Test.YtajjkegcfmhghaaGreatQWdel
import Derived.Test.YtajjkegcfmhghaaGreatQSxBasB
import Derived.Test.YtajjkegcfmhghaaGreatQG8
import Derived.Test.YtajjkegcfmhghaaGreatQG24
import Derived.Test.YtajjkegcfmhghaaGreatQG16
import Derived.Test.YtajjkegcfmhghaaGreatQG9
import Derived.Test.YtajjkegcfmhghaaGreatQSxGrams
/- Walks of telling: what each function does, over the program of this seat. Printed by a program of this session. -/
namespace Go.Proofs.YtajjkegcfmhghaaGreat
open Tryz
open Go Go.Sx Go.RowKit
set_option linter.unusedVariables false
set_option linter.unusedSimpArgs false
set_option maxRecDepth 4000
set_option maxHeartbeats 1000000

theorem zYn (g:Nat) (m:List zS) (u:Value) (l:List zS) (w0:World) (hg:(mpr g (ekv m)).p w0) (hc:Rd w0 (zL [mpr g (ekv m)]) u 9 l.length (l.flatMap zA9)) (ht:Two m l) (hm:m.length ≤ 100000) (hl:l.length ≤ 100000):Calls Tryz.prog 79 #[.map (some g),u] w0 (Ret w0 (zL [mpr g (ekv m)]) fun x N=>∃ v,x = .tuple #[v,nI (mE m l)] ∧ N = [row v 55 9 (mL m l).length ((mL m l).flatMap zDq)]):=by
 have hce:=hc.le
 simp only [maxLen] at hce
 refine zD (F0:=[(0,.map (some g)),(1,u)]) func79 rfl rfl rfl (.c (.c .n)) (zAl hg (by simp [mpr])) ?_
 refine go 4 [] [15,6,0] .n ?_
 intro a w hs;refine zAE hs rfl (hs.rd0 hc).isSl underlying44 rfl ?_
 refine goL 1 [] [17,16,15,6,0] .n ?_
 refine cl (·.addNil 55 9) ?_
 refine cl (·.rerow .z (m':=([]:List zX).length) (xs':=(([]:List zX).flatMap zDq)) (rfl) (rfl)) ?_
 intro a w hs;refine zCJ (fun mm_ a w=>∃ j:Nat,∃ p:Value,∃ out:List zX,∃ mm:List zS,mm_ = l.length - j ∧ St 89 [(0,.map (some g)),(6,p),(15,u),(16,nI l.length),(17,zI (j:Int))] w0 (zL [mpr g (ekv m)]) [row p 55 9 out.length (out.flatMap zDq),mpr g (ekv mm)] a w ∧ j ≤ l.length ∧ (zB5 m l = (zB5 mm (l.drop j)).map (fun s=>(out ++ s.1,s.2))) ∧ out.length ≤ j ∧ mm.length ≤ m.length) ⟨0,.slice none 0 0,[],m,rfl,hs.sub (.c rfl (.c rfl (.c rfl (.c rfl (.c rfl .n))))),by omega,zcH m l,by simp,Nat.le_refl _⟩ ?_
 clear hs w a;rintro mm_ a w ⟨j,p,out,mm,rfl,hs,hI1_0,hI1_1,hI1_2,hI1_3⟩
 revert a w hs
 refine go 1 [] [18,0,6,15,16,17] .n ?_
 refine ifG rfl (fun c_1=>?_) (fun c_1=>?_)
 ·
  refine go 0 [] [0,6,15,16,17] .n ?_
  intro a w hs;refine zBh (j:=j) hs rfl rfl (hs.rd0 hc) rfl (by omega) underlying44 sizeOf48 rfl ?_
  intro a w hs;refine zBC (cs:=zA9 (l.getD j default)) hs rfl (hs.rd0 hc) (zAi zBV l j (by omega)) (by rw [zAa zBV];omega) (by omega) isAgg48 sizeOf48 rfl ?_
  refine goL 5 [0,0] [24,22,8,0,6,15,16,17] .n (fun g2=>⟨rfl,rfl,?_⟩)
  intro a w hs;refine zOY hs rfl rfl (.s (.s .z)) underlying156 underlying3 zeroValue48 rfl ?_
  refine goL 9 [0,1] [30,28,10,9,8,0,6,15,16,17] (.c .z .n) (fun g3=>⟨rfl,rfl,?_⟩)
  intro a w hs;refine zQK hs rfl rfl (.s (.s (.s .z))) underlying156 underlying3 rfl ?_
  refine goL 2 [] [32,10,9,8,0,6,15,16,17] .n ?_
  refine ifG rfl (fun c_4=>?_) (fun c_4=>?_)
  ·
   have hn_:(zAz ((l.getD j default).id) mm) = none:=zUQ (by assumption)
   intro a w hs;rw [hn_] at hs
   revert a w hs
   refine go 6 [0,1,0] [37,35,10,9,8,0,6,15,16,17] (.c (.s .z) (.c (.s .z) .n)) ⟨rfl,rfl,rfl,?_⟩
   intro a w hs;refine zLu (X:=(l.getD j default).g) (Y:=0#8) hs rfl rfl rfl (by decide) rfl ?_
   refine goL 4 [] [50,11,10,9,8,0,6,15,16,17] .n ?_
   refine zYo rfl (fun c_5=>?_) (fun c_5=>?_)
   ·
    intro a w hs;rw [c_5] at hs
    replace c_5:=of_decide_eq_true c_5
    revert a w hs
    refine go 3 [] [5,4] .n ?_
    have hz:=zIC ht (zKC (by omega) hI1_1 (zOW hn_ (by omega)))
    refine cl (·.addNil 55 9) ?_
    intro a w hs;replace hs:=hs.rerow .z (m':=(mL m l).length) (xs':=((mL m l).flatMap zDq)) (by rw [hz.2];rfl) (by rw [hz.2];rfl)
    replace hs:=hs.drop (.c (.s (.s (.s (.s .z)))) (.c (.s (.s (.s .z))) (.c (.s (.s .z)) (.c (.s .z) .n))))
    exact zBK hs rfl rfl rfl ⟨_,congrArg (fun z:Nat=>Value.tuple #[.slice none 0 0,zI (z:Int)]) hz.1.symm,rfl⟩
   intro a w hs;rw [c_5] at hs
   replace c_5:=of_decide_eq_false c_5
   revert a w hs
   refine go 7 [] [50,10,9,8,0,6,15,16,17] .n ?_
   refine ifG rfl (fun c_6=>?_) (fun c_6=>?_)
   ·
    refine go 2 [] [5,4] .n ?_
    have hz:=zIC ht (zKC (by omega) hI1_1 (zOW hn_ (by omega)))
    refine cl (·.addNil 55 9) ?_
    intro a w hs;replace hs:=hs.rerow .z (m':=(mL m l).length) (xs':=((mL m l).flatMap zDq)) (by rw [hz.2];rfl) (by rw [hz.2];rfl)
    replace hs:=hs.drop (.c (.s (.s (.s (.s .z)))) (.c (.s (.s (.s .z))) (.c (.s (.s .z)) (.c (.s .z) .n))))
    exact zBK hs rfl rfl rfl ⟨_,congrArg (fun z:Nat=>Value.tuple #[.slice none 0 0,zI (z:Int)]) hz.1.symm,rfl⟩
   refine go 15 [0,0,0,0] [72,62,0,15,16,17] (.c (.s .z) .n) ⟨rfl,rfl,rfl,rfl,fun g7=>?_⟩
   intro a w hs;refine zBD (size:=9) (bytes:=72) hs rfl rfl (.s (.s (.s (.s .z)))) (zAF (m:=1) (size:=9) (hs.mem.del .z) rfl (by decide)) (by simp [Value.oneCell']) underlying60 (i:=Tryz.t55) rfl rfl rfl rfl rfl (by decide) (by omega) (by simp only [maxLen];omega) rfl ?_;intro v8
   refine cl (·.drop (.c (.s .z) .n)) ?_
   refine goL 3 [] [17,6,0,15,16] .n ⟨(by omega),?_⟩
   have hT:=zIQ (by omega) hI1_1 (zVo hn_ (by omega))
   have hol:(out ++ [zDp (l.getD j default)]).length ≤ j + 1:=by have:=hI1_2;rw [List.length_append];simp;omega
   have hml:=zHq (l.getD j default).id mm
   intro a w hs;replace hs:=hs.rerow .z (m':=(out ++ [zDp (l.getD j default)]).length) (xs':=((out ++ [zDp (l.getD j default)]).flatMap zDq)) (by rw [List.length_append];rfl) (by rw [List.flatMap_append];rfl)
   replace hs:=hs.drop (.c (.s (.s .z)) (.c (.s .z) .n))
   refine ⟨_,?_,j + 1,v8,out ++ [zDp (l.getD j default)],zFm (l.getD j default).id mm,rfl,hs.sub (.c rfl (.c rfl (.c rfl (.c rfl (.c rfl .n))))),by omega,hT,hol,Nat.le_trans hml hI1_3⟩
   omega
  obtain ⟨o,ho⟩:=zOF (by assumption:(zAz ((l.getD j default).id) mm).isSome = true)
  intro a w hs;rw [ho] at hs
  revert a w hs
  refine go 4 [0,1] [37,35,10,9,8,0,6,15,16,17] (.c (.s (.s .z)) (.c (.s .z) .n)) ⟨rfl,rfl,?_⟩
  intro a w hs;refine zLu (X:=(l.getD j default).g) (Y:=o.g) hs rfl rfl rfl rfl rfl ?_
  refine goL 4 [] [50,11,10,9,8,0,6,15,16,17] .n ?_
  refine zYo rfl (fun c_9=>?_) (fun c_9=>?_)
  ·
   intro a w hs;rw [c_9] at hs
   replace c_9:=of_decide_eq_true c_9
   revert a w hs
   refine go 3 [] [5,4] .n ?_
   have hz:=zIC ht (zKC (by omega) hI1_1 (zTz ho (by omega)))
   refine cl (·.addNil 55 9) ?_
   intro a w hs;replace hs:=hs.rerow .z (m':=(mL m l).length) (xs':=((mL m l).flatMap zDq)) (by rw [hz.2];rfl) (by rw [hz.2];rfl)
   replace hs:=hs.drop (.c (.s (.s (.s (.s .z)))) (.c (.s (.s (.s .z))) (.c (.s (.s .z)) (.c (.s .z) .n))))
   exact zBK hs rfl rfl rfl ⟨_,congrArg (fun z:Nat=>Value.tuple #[.slice none 0 0,zI (z:Int)]) hz.1.symm,rfl⟩
  intro a w hs;rw [c_9] at hs
  replace c_9:=of_decide_eq_false c_9
  revert a w hs
  refine go 14 [0,1] [41,40,0,6,15,16,17] (.c (.s .z) (.c .z .n)) ⟨rfl,rfl,?_⟩
  intro a w hs;refine zB (v:=.tuple #[.agg #[zI (((zAD o (l.getD j default)).1).k),zI (((zAD o (l.getD j default)).1).id),zI (((zAD o (l.getD j default)).1).p0),zI (((zAD o (l.getD j default)).1).p1),zI (((zAD o (l.getD j default)).1).p2),zI (((zAD o (l.getD j default)).1).v0),zI (((zAD o (l.getD j default)).1).v1),zI (((zAD o (l.getD j default)).1).v2),.int .u16 (((((zAD o (l.getD j default)).1).a).toNat:Nat):Int)],.bool ((zAD o (l.getD j default)).2)]) hs (.c rfl (.c rfl .n)) call114 (zXO o (l.getD j default) _) rfl ?_
  refine goL 7 [0] [45,12,0,6,15,16,17] .n (fun g10=>⟨rfl,?_⟩)
  refine ifG rfl (fun c_11=>?_) (fun c_11=>?_)
  ·
   refine go 3 [0] [48,46,0,15,16,17] (.c .z .n) ⟨rfl,fun g12=>?_⟩
   intro a w hs;refine zBD (size:=9) (bytes:=72) hs rfl rfl (.s (.s (.s (.s (.s .z))))) (zAF (m:=1) (size:=9) (hs.mem.del .z) rfl (by decide)) (by simp [Value.oneCell']) underlying60 (i:=Tryz.t55) rfl rfl rfl rfl rfl (by decide) (by omega) (by simp only [maxLen];omega) rfl ?_;intro v13
   refine cl (·.drop (.c (.s .z) .n)) ?_
   refine goL 3 [] [17,6,0,15,16] .n ⟨(by omega),?_⟩
   have hT:=zIQ (by omega) hI1_1 (zNl ho (by omega))
   have hol:(out ++ zC0 o (l.getD j default)).length ≤ j + 1:=by have:=hI1_2;rw [List.length_append];have:=zLY o (l.getD j default);omega
   have hml:=zHq (l.getD j default).id mm
   intro a w hs;replace hs:=hs.rerow .z (m':=(out ++ zC0 o (l.getD j default)).length) (xs':=((out ++ zC0 o (l.getD j default)).flatMap zDq)) (by rw [zQ9 (by assumption),List.length_append];rfl) (by rw [zQ9 (by assumption),List.flatMap_append];rfl)
   replace hs:=hs.drop (.c (.s (.s (.s .z))) (.c (.s (.s .z)) (.c (.s .z) .n)))
   refine ⟨_,?_,j + 1,v13,out ++ zC0 o (l.getD j default),zFm (l.getD j default).id mm,rfl,hs.sub (.c rfl (.c rfl (.c rfl (.c rfl (.c rfl .n))))),by omega,hT,hol,Nat.le_trans hml hI1_3⟩
   omega
  refine go 2 [] [17,0,6,15,16] .n ⟨(by omega),?_⟩
  have hT:=zIQ (by omega) hI1_1 (zNl ho (by omega))
  have hol:(out ++ zC0 o (l.getD j default)).length ≤ j + 1:=by have:=hI1_2;rw [List.length_append];have:=zLY o (l.getD j default);omega
  have hml:=zHq (l.getD j default).id mm
  refine cl (·.rerow (.s (.s (.s (.s .z)))) (m':=(out ++ zC0 o (l.getD j default)).length) (xs':=((out ++ zC0 o (l.getD j default)).flatMap zDq)) (by rw [zSk (by assumption),List.append_nil]) (by rw [zSk (by assumption),List.append_nil])) ?_
  refine cl (·.drop (.c (.s (.s (.s .z))) (.c (.s (.s .z)) (.c (.s .z) .n)))) ?_
  intro a w hs;refine ⟨_,?_,j + 1,p,out ++ zC0 o (l.getD j default),zFm (l.getD j default).id mm,rfl,hs.sub (.c rfl (.c rfl (.c rfl (.c rfl (.c rfl .n))))),by omega,hT,hol,Nat.le_trans hml hI1_3⟩
  omega
 refine go 1 [] [75,6] .n ?_
 intro a w hs;refine zLX hs rfl (.s .z) underlying156 rfl ?_;intro it14
 refine goL 0 [] [76,6] .n ?_
 refine cl (·.rerow (.s .z) (m':=out.length + ([]:List zS).length) (xs':=((out ++ ([]:List zS).map zFv).flatMap zDq)) (by simp) (by simp)) ?_
 intro a w hs;refine zCJ (fun mm_ a w=>∃ dn:List zS,∃ q:Value,mm_ = mm.length - dn.length ∧ St 89 [(6,q),(76,pt it14 0)] w0 (zL [mpr g (ekv m)]) [row q 55 9 (out.length + dn.length) ((out ++ dn.map zFv).flatMap zDq),mit g it14 (ekv mm) (ekv dn)] a w ∧ dn.length ≤ mm.length) ⟨[],p,rfl,hs.sub (.c rfl (.c rfl .n)),by simp⟩ ?_
 clear hs w a;rintro mm_ a w ⟨dn,q,rfl,hs,hI2_0⟩
 revert a w hs
 refine go 0 [] [6,76] .n ?_
 intro a w hs;refine zOB hs rfl (.s .z) rfl (fun hp15=>?_) (fun x16 hm17 hl18=>?_)
 ·
  refine goL 3 [] [86,6] .n ?_
  intro a w hs;refine zK hs (.c rfl (.c rfl .n)) call115 (.c (.s .z) .n) (zUx (hs.mem.del (.s .z)) (by first | omega | (simp;done) | (simp;omega)) (by first | omega | (simp;omega))) rfl ?_;clear hs w a;rintro _ _ a w ⟨rfl,l19,⟨hp20,hs21⟩,rfl⟩ hs
  revert a w hs
  refine goL 3 [] [5,4] .n ?_
  have hz:=zSY ht (zVp (by omega) hI1_1) (hp20.trans ((hp15.map zFv).append_left out)) hs21
  intro a w hs;replace hs:=hs.rerow .z (m':=(mL m l).length) (xs':=((mL m l).flatMap zDq)) (by rw [hz.2,hp20.length_eq];simp) (by rw [hz.2])
  replace hs:=hs.drop (.c (.s .z) .n)
  exact zBK hs rfl rfl rfl ⟨_,congrArg (fun z:Nat=>Value.tuple #[q,zI (z:Int)]) hz.1.symm,rfl⟩
 refine goL 2 [] [6,76] .n ?_
 intro a w hs;refine zLN hs rfl .z rfl ?_
 refine goL 6 [] [84,81,76] .n (fun g22=>?_)
 intro a w hs;refine zBD (size:=9) (bytes:=72) hs rfl rfl (.s (.s .z)) (zAF (m:=1) (size:=9) (hs.mem.del .z) rfl (by decide)) (by simp [Value.oneCell']) underlying60 (i:=Tryz.t55) rfl rfl rfl rfl rfl (by decide) (by omega) (by simp only [maxLen];omega) rfl ?_;intro v23
 refine cl (·.drop (.c (.s .z) .n)) ?_
 refine goL 1 [] [6,76] .n ?_
 have hal_:(dn ++ [x16]).length = dn.length + 1:=by simp
 intro a w hs;replace hs:=hs.rerow .z (m':=out.length + (dn ++ [x16]).length) (xs':=((out ++ (dn ++ [x16]).map zFv).flatMap zDq)) (by rw [hal_];rfl) (by rw [List.map_append,← List.append_assoc,List.flatMap_append (xs:=out ++ dn.map zFv)];rfl)
 refine ⟨_,?_,dn ++ [x16],v23,rfl,hs.sub (.c rfl (.c rfl .n)),by omega⟩
 omega
theorem zXS (t tm:Int) (u:Value) (l:List zS) (w0:World) (ht_ : -9223372036854775808 ≤ t ∧ t ≤ 9223372036854775807) (htm_ : -9223372036854775808 ≤ tm ∧ tm ≤ 9223372036854775807) (hc:Rd w0 [] u 9 l.length (l.flatMap zA9)) (hw:∀ x ∈ l,x.wf):Calls Tryz.prog 47 #[.agg #[zI t,zI tm,u]] w0 (Ret w0 [] fun x N=>∃ v,x = .tuple #[.agg #[zI ((fG t tm l).t),zI ((fG t tm l).tm),zI ((fG t tm l).b),v],nI (zMQ t tm l)] ∧ N = [row v 55 9 (fG t tm l).l.length ((fG t tm l).l.flatMap zDq)]):=by
 have hce:=hc.le
 simp only [maxLen] at hce
 refine zD (F0:=[(0,.agg #[zI t,zI tm,u])]) func47 rfl rfl rfl (.c .n) (Mem.nil _) ?_
 refine go 4 [0,1] [7,2,1] .n (fun g1=>fun g2=>⟨rfl,?_⟩)
 intro a w hs;refine zB (v:=nI (zW t tm l)) hs (.c rfl .n) call78 (zIj t tm _ l _ (by omega) (by omega) (hs.rd0 hc)) rfl ?_
 refine goL 3 [] [10,4,2,1] .n ?_
 refine ifG rfl (fun c_3=>?_) (fun c_3=>?_)
 ·
  refine go 4 [0] [3,2] (.c .z .n) ⟨rfl,?_⟩
  have hE:zMQ t tm l = zW t tm l:=by first | exact zRl (by omega) | (rw [zJh (by omega)]) | (rw [zJh (by omega)];omega)
  have hS:fG t tm l = ⟨0,0,0,[]⟩:=zb3 (by omega)
  refine cl (·.addNil 55 9) ?_
  intro a w hs;replace hs:=hs.rerow .z (m':=(fG t tm l).l.length) (xs':=((fG t tm l).l.flatMap zDq)) (by rw [hS];rfl) (by rw [hS];rfl)
  exact zBJ hs rfl rfl rfl (.s .z) (.z (.c (.c (.c (.c .n))))) isAgg62 sizeOf62 (.c (.s (.s .z)) (.c (.s .z) .n)) ⟨_,by rw [hE,hS] <;> rfl,rfl⟩
 have hsp:=zCG (by omega:zW t tm l = 0)
 have ht:=zSD (zHo hsp.2.2.2.2.2) (zJu hsp.2.2.2.2.2) hw
 refine go 0 [] [2,1] .n ?_
 intro a w hs;refine zTG hs rfl ?_;intro g4
 refine goL 2 [0] [16,14,2,1] (.c (.s (.s .z)) .n) ⟨rfl,?_⟩
 intro a w hs;refine zK hs (.c rfl (.c rfl .n)) call79 (.c (.s .z) .n) (zYn g4 ([]) _ l _ (hs.mem.del (.s .z)) (hs.mem.rd1 hc (.c (.s .z) .n)) (by assumption) (by first | omega | (simp;done)) (by omega)) rfl ?_;clear hs w a;rintro _ _ a w ⟨v5,rfl,rfl⟩ hs
 have hk6:=zby (by assumption:Two ([]) l)
 revert a w hs
 refine goL 7 [] [21,6,5,2,1] .n ?_
 refine ifG rfl (fun c_7=>?_) (fun c_7=>?_)
 ·
  refine go 4 [0] [3,2] (.c (.s (.s .z)) .n) ⟨rfl,?_⟩
  have hE:zMQ t tm l = mE ([]) l:=by first | exact zRl (by omega) | (rw [zJh (by omega)]) | (rw [zJh (by omega)];omega)
  have hS:fG t tm l = ⟨0,0,0,[]⟩:=zb3 (by omega)
  refine cl (·.addNil 55 9) ?_
  intro a w hs;replace hs:=hs.rerow .z (m':=(fG t tm l).l.length) (xs':=((fG t tm l).l.flatMap zDq)) (by rw [hS];rfl) (by rw [hS];rfl)
  exact zBJ hs rfl rfl rfl (.s .z) (.z (.c (.c (.c (.c .n))))) isAgg62 sizeOf62 (.c (.s (.s (.s .z))) (.c (.s (.s .z)) (.c (.s .z) .n))) ⟨_,by rw [hE,hS] <;> rfl,rfl⟩
 refine go 5 [0,0] [28,27,25,2] (.c (.s .z) .n) ⟨rfl,rfl,?_⟩
 intro a w hs;refine zGG (it:=Tryz.t62) (zs:=[zI 0,zI 0,zI 0,.slice none 0 0]) (places:=[(0,1),(1,1),(2,1),(3,1)]) hs (.c rfl (.c rfl (.c rfl (.c rfl .n)))) underlying62 rfl rfl rfl rfl (.c rfl rfl (.z (.c .n)) (.c rfl rfl (.s (.z (.c .n))) (.c rfl rfl (.s (.s (.z (.c .n)))) (.c rfl (zO (hs.mem.del (.s .z))).isSl.lcells (.s (.s (.s (.z (.c .n))))) .n)))) rfl ?_
 intro a w hs;refine zAg hs rfl rfl (.s (.s .z)) (.z (.c (.c (.c (.c .n))))) (zH rfl (zH rfl (zH rfl (zH (zO (hs.mem.del (.s .z))).isSl.one zAf)))) sizeOf62 rfl ?_
 refine goL 1 [] [3,2] .n ?_
 have hE:zMQ t tm l = 0:=by rw [zJh (by omega)];omega
 have hS:fG t tm l = ⟨t,tm,-1,mL [] l⟩:=zaT (by omega)
 refine cl (·.rerow (.s (.s .z)) (m':=(fG t tm l).l.length) (xs':=((fG t tm l).l.flatMap zDq)) (by rw [hS]) (by rw [hS])) ?_
 intro a w hs;exact zBJ hs rfl rfl rfl (.s .z) (.z (.c (.c (.c (.c .n))))) isAgg62 sizeOf62 (.c (.s (.s .z)) (.c (.s .z) .n)) ⟨_,by rw [hE,hS] <;> rfl,rfl⟩
end Go.Proofs.YtajjkegcfmhghaaGreat
/- Walks of events: what each function does, over the program of this seat. Printed by a program of this session. -/
namespace Go.Proofs.YtajjkegcfmhghaaGreat
open Tryz
open Go Go.Sx Go.RowKit
set_option linter.unusedVariables false
set_option linter.unusedSimpArgs false
set_option maxRecDepth 4000
set_option maxHeartbeats 1000000

theorem Cli.oks {g:Nat} {c:zAO} {C:CS} {Y:HA} (h:Cli g c C Y):Oks C.σ.l c.keep:=by obtain ⟨_,_,_,h,_⟩:=h;exact h.oks
end Go.Proofs.YtajjkegcfmhghaaGreat
/- Walks of the whole's example: what each function does, over the program of this seat. Printed by a program of this session. -/
namespace Go.Proofs.YtajjkegcfmhghaaGreat
open Tryz
open Go Go.Sx Go.RowKit
set_option linter.unusedVariables false
set_option linter.unusedSimpArgs false
set_option maxRecDepth 4000
set_option maxHeartbeats 1000000

theorem zVc (w0:World):Calls Tryz.prog 23 #[] w0 (zAe w0 (.agg #[zI 8,zI 4,zI 0,zI 0,zI 0,zI 0,zI 0,zI 1,zI 1,zI 5,.bool (false)])):=by
 refine zD (F0:=[]) func23 rfl rfl rfl .n (Mem.nil _) ?_
 refine go 3 [0] [0] .n (fun g1=>⟨rfl,?_⟩)
 intro a w hs;exact zLU hs rfl rfl .z (.z (.c (.c (.c (.c (.c (.c (.c (.c (.c (.c (.c .n)))))))))))) isAgg23 sizeOf23 (.c .z .n) ⟨rfl,rfl⟩
theorem zN6 (t tm:Int) (u:Value) (l:List zS) (w0:World) (ht : -9223372036854775808 ≤ t ∧ t ≤ 9223372036854775807) (htm : -9223372036854775808 ≤ tm ∧ tm ≤ 9223372036854775807) (hc:Rd w0 [] u 9 l.length (l.flatMap zA9)) (hw:∀ x ∈ l,x.wf):Calls Tryz.prog 24 #[.agg #[zI t,zI tm,u]] w0 (Ret w0 [] fun v N=>N = [row v 5 1 (zNs t tm l).length (zC (zNs t tm l))]):=by
 have hce:=hc.le
 simp only [maxLen] at hce
 refine zD (F0:=[(0,.agg #[zI t,zI tm,u])]) func24 rfl rfl rfl (.c .n) (Mem.nil _) ?_
 refine go 3 [0,0] [8] .n (fun g1=>⟨rfl,?_⟩)
 intro a w hs;refine zK hs (.c rfl .n) call47 .n (zXS t tm _ l _ (by omega) (by omega) (hs.rd0 hc) hw) rfl ?_;clear hs w a;rintro _ _ a w ⟨v2,rfl,rfl⟩ hs
 have hk3:=zan (bt:=t) (btm:=tm) (b:=l)
 revert a w hs
 refine goL 4 [] [3,11,10] .n (fun g4=>?_)
 intro a w hs;refine zAg hs rfl rfl .z (.z (.c (.c (.c (.c .n))))) (zH rfl (zH rfl (zH rfl (zH (zO (hs.mem.del (.s .z))).isSl.one zAf)))) sizeOf62 rfl ?_
 refine goL 2 [0] [13] (.c .z .n) ⟨rfl,?_⟩
 intro a w hs;refine zK hs (.c rfl .n) call15 .n (zLH ((fG t tm l).t) ((fG t tm l).tm) ((fG t tm l).b) _ ((fG t tm l).l) _ (by omega) (by omega) (by omega) (zO (hs.mem.del (.s .z))) (zZr hw)) rfl ?_;clear hs w a;rintro _ _ a w ⟨v5,rfl,rfl⟩ hs
 have hk6:=zFA ((fG t tm l).t) ((fG t tm l).tm) ((fG t tm l).b) ((fG t tm l).l)
 revert a w hs
 refine goL 7 [] [2] .n ?_
 refine cl (·.drop (.c (.s (.s (.s .z))) (.c (.s (.s .z)) (.c (.s .z) .n)))) ?_
 intro a w hs;exact fin hs rfl rfl rfl
theorem zH8 (w0:World):Calls Tryz.prog 7 #[] w0 (zAe w0 (.bool true)):=by
 have e1:=zc7;have e2:=zc3;have e3:=zc9;have e4:=zc5;have e5:=zc8
 unfold tS4 at e5;unfold tS3 at e4 e5;unfold tS2 at e3 e4 e5;unfold tS1 at e2 e3 e4 e5;unfold tEn at e1 e2 e3 e4 e5
 refine zD (F0:=[]) func7 rfl rfl rfl .n (Mem.nil _) ?_
 refine go 14 [0,0] [2,1] .n (fun g1=>fun g2=>⟨rfl,fun g3=>fun g4=>⟨rfl,?_⟩⟩)
 intro a w hs;refine zB (v:=.agg #[zI 8,zI 4,zI 0,zI 0,zI 0,zI 0,zI 0,zI 1,zI 1,zI 5,.bool (false)]) hs .n call23 (zVc _) rfl ?_
 intro a w hs;refine zK hs (.c rfl .n) call22 .n (zRv plC zUN _) rfl ?_;clear hs w a;rintro _ _ a w ⟨g5,Y6,rfl,rfl,hY7⟩ hs
 revert a w hs
 refine goL 14 [0] [30,29,28,3,2] (.c (.s (.s (.s .z))) .n) ⟨rfl,?_⟩
 intro a w hs;refine zF hs rfl rfl rfl ?_
 refine zK hs (.c rfl .n) call24 .n (zN6 1 0 _ ([(⟨1,0,0,0,65536,0,0,0#16,0#8⟩ : zS)]:List zS) _ (by omega) (by omega) (zAF (m:=1) (size:=9) (hs.mem.del (.s (.s (.s (.s .z))))) rfl (by decide)) (zNT (by omega))) rfl ?_;clear hs w a;rintro v8 _ a w rfl hs
 have hk9:=zIA 1 0 ([(⟨1,0,0,0,65536,0,0,0#16,0#8⟩ : zS)]:List zS)
 refine zF hs rfl rfl rfl ?_
 refine zK hs (.c rfl (.c rfl (.c rfl .n))) call18 (.c (.s (.s .z)) .n) (zKN hY7 zUN zWW zcU zRy 100 (by decide) _ (hs.mem.del (.s (.s .z))) (hs.mem.rdrow .z (.c (.s .z) .n))) rfl ?_;clear hs w a;rintro _ _ a w ⟨rfl,Y10,rfl,hY11⟩ hs
 revert a w hs
 refine goL 1 [] [33,28,3,2] .n ?_
 have hb_:(!((((zEN plC (C0 plC) (zA (zNs 1 0 ([(⟨1,0,0,0,65536,0,0,0#16,0#8⟩ : zS)]:List zS))):Nat):Int):Int) == 0)) = false:=by rw [e1] <;> rfl
 intro a w hs;rw [hb_] at hs;clear hb_
 revert a w hs
 refine go 4 [0] [37,36,35,3] (.c (.s (.s (.s .z))) .n) ⟨rfl,?_⟩
 intro a w hs;refine zF hs rfl rfl rfl ?_
 refine zK hs (.c rfl .n) call24 .n (zN6 2 10 _ ([(⟨1,10,0,0,65536,0,0,0#16,0#8⟩ : zS)]:List zS) _ (by omega) (by omega) (zAF (m:=1) (size:=9) (hs.mem.del (.s (.s (.s (.s .z))))) rfl (by decide)) (zNT (by omega))) rfl ?_;clear hs w a;rintro v12 _ a w rfl hs
 have hk13:=zIA 2 10 ([(⟨1,10,0,0,65536,0,0,0#16,0#8⟩ : zS)]:List zS)
 refine zF hs rfl rfl rfl ?_
 refine zK hs (.c rfl (.c rfl (.c rfl .n))) call18 (.c (.s (.s .z)) .n) (zKN hY11 zUN zWM zcB zRy 110 (by decide) _ (hs.mem.del (.s (.s .z))) (hs.mem.rdrow .z (.c (.s .z) .n))) rfl ?_;clear hs w a;rintro _ _ a w ⟨rfl,Y14,rfl,hY15⟩ hs
 revert a w hs
 refine goL 1 [] [40,35,3] .n ?_
 have hb_:(!((((zEN plC (zIw plC (C0 plC) 100 (zA (zNs 1 0 ([(⟨1,0,0,0,65536,0,0,0#16,0#8⟩ : zS)]:List zS)))) (zA (zNs 2 10 ([(⟨1,10,0,0,65536,0,0,0#16,0#8⟩ : zS)]:List zS))):Nat):Int):Int) == 0)) = false:=by rw [e2] <;> rfl
 intro a w hs;rw [hb_] at hs;clear hb_
 revert a w hs
 refine go 3 [] [42,3] .n ?_
 intro a w hs;refine zK hs (.c rfl (.c rfl .n)) call25 (.c .z .n) (zKM hY15 zUN zWg zY2 zRy 104 (by decide) _ (hs.mem.del .z)) rfl ?_;clear hs w a;rintro _ _ a w ⟨v18,rfl,Y16,rfl,hY17⟩ hs
 rw [e3] at hs
 replace hs:=hs.rerow .z (m':=1) (xs':=[zI 1,zI 4,zI 0,zI 0,.int .u16 (((0#16).toNat:Nat):Int),zI 1]) rfl rfl
 revert a w hs
 refine goL 1 [] [44,43,3] .n ?_
 intro a w hs;refine zK hs (.c rfl (.c rfl .n)) call25 (.c (.s .z) .n) (zKM hY17 zUN zW7 zY2 za1 113 (by decide) _ (hs.mem.del (.s .z))) rfl ?_;clear hs w a;rintro _ _ a w ⟨v21,rfl,Y19,rfl,hY20⟩ hs
 rw [e4] at hs
 replace hs:=hs.rerow .z (m':=1) (xs':=[zI 1,zI 13,zI 0,zI 0,.int .u16 (((0#16).toNat:Nat):Int),zI 3]) rfl rfl
 revert a w hs
 refine goL 1 [] [46,45,43] .n ?_
 intro a w hs;refine zK hs (.c rfl (.c rfl .n)) call25 (.c (.s .z) .n) (zKM hY20 zUN zbI zY2 zbP 900 (by decide) _ (hs.mem.del (.s .z))) rfl ?_;clear hs w a;rintro _ _ a w ⟨v24,rfl,Y22,rfl,hY23⟩ hs
 rw [e5] at hs
 replace hs:=hs.rerow .z (m':=1) (xs':=[zI 1,zI 15,zI 0,zI 0,.int .u16 (((0#16).toNat:Nat):Int),zI 4]) rfl rfl
 revert a w hs
 refine goL 3 [] [7,6,5,47,45,43] .n (fun g25=>fun g26=>fun g27=>?_)
 intro a w hs;refine zAg hs rfl rfl (.s (.s .z)) (.z (.c (.c (.c .n)))) (zH rfl (zH rfl (zH (zO (hs.mem.del (.s (.s (.s (.s (.s (.s .z)))))))).isSl.one zAf))) sizeOf33 rfl ?_
 intro a w hs;refine zAg hs rfl rfl (.s (.s .z)) (.z (.c (.c (.c .n)))) (zH rfl (zH rfl (zH (zO (hs.mem.del (.s (.s (.s (.s (.s .z))))))).isSl.one zAf))) sizeOf33 rfl ?_
 intro a w hs;refine zAg hs rfl rfl (.s (.s .z)) (.z (.c (.c (.c .n)))) (zH rfl (zH rfl (zH (zO (hs.mem.del (.s (.s (.s .z))))).isSl.one zAf))) sizeOf33 rfl ?_
 refine goL 2 [0] [49,7,6,5] (.c (.s (.s .z)) .n) ⟨rfl,?_⟩
 intro a w hs;refine zAE hs rfl (zO (hs.mem.del (.s (.s (.s (.s (.s (.s .z)))))))).isSl underlying31 rfl ?_
 refine cl (·.recell (v':=zI 1) (Option.some.inj rfl)) ?_
 refine goL 4 [0] [54,52,7,6] (.c .z .n) ⟨rfl,?_⟩
 intro a w hs;refine zF hs rfl rfl rfl ?_
 refine zBh (j:=0) hs rfl rfl (zO (hs.mem.del (.s (.s (.s (.s (.s (.s .z)))))))) (by decide) (by omega) underlying31 sizeOf43 rfl ?_
 intro a w hs;refine zF hs rfl rfl rfl ?_
 refine zBC (cs:=[zI 1,zI 4,zI 0,zI 0,.int .u16 (((0#16).toNat:Nat):Int),zI 1]) hs rfl (zO (hs.mem.del (.s (.s (.s (.s (.s (.s .z)))))))) (by rfl) (by simp) (by decide) isAgg43 sizeOf43 rfl ?_
 refine goL 3 [] [59,52,7,6] .n ⟨by kernel_rfl,?_⟩
 have hb_:(zAG [zI 1,zI 4,zI 0,zI 0,.int .u16 (((0#16).toNat:Nat):Int),zI 1] [zI 1,zI 4,zI 0,zI 0,.int .u16 (0),zI 1]) = true:=by decide
 intro a w hs;rw [hb_] at hs;clear hb_
 revert a w hs
 refine go 4 [0] [63,61,7,6] (.c (.s (.s .z)) .n) ⟨rfl,?_⟩
 intro a w hs;refine zF hs rfl rfl rfl ?_
 refine zAE hs rfl (zO (hs.mem.del (.s (.s (.s (.s (.s .z))))))).isSl underlying31 rfl ?_
 refine cl (·.recell (v':=zI 1) (Option.some.inj rfl)) ?_
 refine goL 5 [0] [69,67,7] (.c .z .n) ⟨rfl,?_⟩
 intro a w hs;refine zF hs rfl rfl rfl ?_
 refine zBh (j:=0) hs rfl rfl (zO (hs.mem.del (.s (.s (.s (.s (.s .z))))))) (by decide) (by omega) underlying31 sizeOf43 rfl ?_
 intro a w hs;refine zF hs rfl rfl rfl ?_
 refine zBC (cs:=[zI 1,zI 13,zI 0,zI 0,.int .u16 (((0#16).toNat:Nat):Int),zI 3]) hs rfl (zO (hs.mem.del (.s (.s (.s (.s (.s .z))))))) (by rfl) (by simp) (by decide) isAgg43 sizeOf43 rfl ?_
 refine goL 3 [] [74,67,7] .n ⟨by kernel_rfl,?_⟩
 have hb_:(zAG [zI 1,zI 13,zI 0,zI 0,.int .u16 (((0#16).toNat:Nat):Int),zI 3] [zI 1,zI 13,zI 0,zI 0,.int .u16 (0),zI 3]) = true:=by decide
 intro a w hs;rw [hb_] at hs;clear hb_
 revert a w hs
 refine go 4 [0] [78,76,7] (.c (.s (.s .z)) .n) ⟨rfl,?_⟩
 intro a w hs;refine zF hs rfl rfl rfl ?_
 refine zAE hs rfl (zO (hs.mem.del (.s (.s (.s .z))))).isSl underlying31 rfl ?_
 refine cl (·.recell (v':=zI 1) (Option.some.inj rfl)) ?_
 refine goL 5 [0] [84,82] (.c .z .n) ⟨rfl,?_⟩
 intro a w hs;refine zF hs rfl rfl rfl ?_
 refine zBh (j:=0) hs rfl rfl (zO (hs.mem.del (.s (.s (.s .z))))) (by decide) (by omega) underlying31 sizeOf43 rfl ?_
 intro a w hs;refine zF hs rfl rfl rfl ?_
 refine zBC (cs:=[zI 1,zI 15,zI 0,zI 0,.int .u16 (((0#16).toNat:Nat):Int),zI 4]) hs rfl (zO (hs.mem.del (.s (.s (.s .z))))) (by rfl) (by simp) (by decide) isAgg43 sizeOf43 rfl ?_
 refine goL 3 [] [89,82] .n ⟨by kernel_rfl,?_⟩
 have hb_:(zAG [zI 1,zI 15,zI 0,zI 0,.int .u16 (((0#16).toNat:Nat):Int),zI 4] [zI 1,zI 15,zI 0,zI 0,.int .u16 (0),zI 4]) = true:=by decide
 intro a w hs;rw [hb_] at hs;clear hb_
 revert a w hs
 refine go 2 [] [0] .n ?_
 refine cl (·.drop (.c (.s (.s (.s (.s (.s (.s (.s (.s (.s (.s (.s (.s .z)))))))))))) (.c (.s (.s (.s (.s (.s (.s (.s (.s (.s (.s (.s .z))))))))))) (.c (.s (.s (.s (.s (.s (.s (.s (.s (.s (.s .z)))))))))) (.c (.s (.s (.s (.s (.s (.s (.s (.s (.s .z))))))))) (.c (.s (.s (.s (.s (.s (.s (.s (.s .z)))))))) (.c (.s (.s (.s (.s (.s (.s (.s .z))))))) (.c (.s (.s (.s (.s (.s (.s .z)))))) (.c (.s (.s (.s (.s (.s .z))))) (.c (.s (.s (.s (.s .z)))) (.c (.s (.s (.s .z))) (.c (.s (.s .z)) (.c (.s .z) (.c .z .n)))))))))))))) ?_
 intro a w hs;exact fin hs rfl rfl ⟨rfl,rfl⟩
theorem zcE (u:Value) (L:List EvR) (w0:World) (hu:Rd w0 [] u 3 L.length (L.flatMap evV)) (hL:∀ x ∈ L,x.ok w0) (hg:Grt L):Calls Tryz.prog 21 #[u] w0 (zAe w0 (.int .i64 1)):=by
 have hue:=hu.le
 simp only [maxLen] at hue
 unfold Grt at hg
 refine zD (F0:=[(0,u)]) func21 rfl rfl rfl (.c .n) (Mem.nil _) ?_
 refine go 3 [] [6,3,0] .n ?_
 intro a w hs;refine zAE hs rfl (hs.rd0 hu).isSl underlying24 rfl ?_
 refine goL 1 [] [8,7,6,3,0] .n ?_
 intro a w hs;refine zCJ (fun mm_ a w=>∃ j:Nat,mm_ = L.length - j ∧ St 25 [(0,u),(3,zI (zSe L j)),(6,u),(7,nI L.length),(8,nI j)] w0 [] [] a w ∧ j ≤ L.length) ⟨0,rfl,hs.sub (.c rfl (.c rfl (.c rfl (.c rfl (.c rfl .n))))),by omega⟩ ?_
 clear hs w a;rintro mm_ a w ⟨j,rfl,hs,hI1_0⟩
 revert a w hs
 refine go 1 [] [9,0,3,6,7,8] .n ?_
 refine ifG rfl (fun c_1=>?_) (fun c_1=>?_)
 ·
  refine go 0 [] [0,3,6,7,8] .n ?_
  intro a w hs;refine zBh (j:=j) hs rfl rfl (hs.rd0 hu) rfl (by omega) underlying24 sizeOf30 rfl ?_
  intro a w hs;refine zBC (cs:=evV (L.getD j default)) hs rfl (hs.rd0 hu) (zAi zG7 L j (by omega)) (by rw [zAa zG7];omega) (by omega) isAgg30 sizeOf30 rfl ?_
  refine goL 5 [50,0] [14,12,0,6,7,8] .n (fun g2=>⟨rfl,(zH rfl (zH rfl (zH (hL _ (zMU (by omega))).rd.isSl.one zAf))),rfl,?_⟩)
  intro a w hs;refine zAE hs rfl (hs.rd0 (hL _ (zMU (by omega))).rd).isSl underlying28 rfl ?_
  intro a w hs;refine zER hs rfl rfl rfl ?_
  refine goL 3 [] [8,3,0,6,7] .n ⟨(by omega),?_⟩
  refine cl (·.drop (.c .z .n)) ?_
  intro a w hs;refine ⟨_,?_,(j + 1),rfl,hs.sub (.c rfl (.c rfl (.c rfl (.c rfl (.c rfl .n))))),by omega⟩
  omega
 have hjl:j = L.length:=by omega
 intro a w hs;rw [show zSe L j = zSe L L.length by rw [hjl]] at hs
 have hgr:=zW0 L L.length
 revert a w hs
 refine go 1 [] [18,3] .n ?_
 intro a w hs;refine zAE hs rfl (hs.rd0 hu).isSl underlying24 rfl ?_
 refine goL 2 [] [21,3] .n ?_
 intro a w hs;refine zY (b:=decide (60 < ((L.length:Nat):Int))) (fun c_3=>?_) (fun c_3=>?_)
 ·
  rw [c_3] at hs
  replace c_3:=of_decide_eq_true c_3
  revert a w hs
  refine goF 3 3 [] [24] .n ?_
  refine go 2 [] [2] .n ?_
  intro a w hs;exact fin hs rfl rfl ⟨rfl,rfl⟩
 rw [c_3] at hs
 replace c_3:=of_decide_eq_false c_3
 revert a w hs
 refine goF 3 3 [] [24] .n ?_
 have hb_:(decide (12000 < (zSe L L.length))) = true:=by first | (rw [Bool.or_eq_true,decide_eq_true_eq,decide_eq_true_eq];omega) | (simp;omega)
 intro a w hs;rw [hb_] at hs;clear hb_
 revert a w hs
 refine go 2 [] [2] .n ?_
 intro a w hs;exact fin hs rfl rfl ⟨rfl,rfl⟩
theorem zaQ (u:Value) (L:List EvR) (w0:World) (hu:Rd w0 [] u 3 L.length (L.flatMap evV)) (hL:∀ x ∈ L,x.ok w0) (hg:¬ Grt L):Calls Tryz.prog 21 #[u] w0 (zAe w0 (.int .i64 0)):=by
 have hue:=hu.le
 simp only [maxLen] at hue
 unfold Grt at hg
 refine zD (F0:=[(0,u)]) func21 rfl rfl rfl (.c .n) (Mem.nil _) ?_
 refine go 3 [] [6,3,0] .n ?_
 intro a w hs;refine zAE hs rfl (hs.rd0 hu).isSl underlying24 rfl ?_
 refine goL 1 [] [8,7,6,3,0] .n ?_
 intro a w hs;refine zCJ (fun mm_ a w=>∃ j:Nat,mm_ = L.length - j ∧ St 25 [(0,u),(3,zI (zSe L j)),(6,u),(7,nI L.length),(8,nI j)] w0 [] [] a w ∧ j ≤ L.length) ⟨0,rfl,hs.sub (.c rfl (.c rfl (.c rfl (.c rfl (.c rfl .n))))),by omega⟩ ?_
 clear hs w a;rintro mm_ a w ⟨j,rfl,hs,hI1_0⟩
 revert a w hs
 refine go 1 [] [9,0,3,6,7,8] .n ?_
 refine ifG rfl (fun c_1=>?_) (fun c_1=>?_)
 ·
  refine go 0 [] [0,3,6,7,8] .n ?_
  intro a w hs;refine zBh (j:=j) hs rfl rfl (hs.rd0 hu) rfl (by omega) underlying24 sizeOf30 rfl ?_
  intro a w hs;refine zBC (cs:=evV (L.getD j default)) hs rfl (hs.rd0 hu) (zAi zG7 L j (by omega)) (by rw [zAa zG7];omega) (by omega) isAgg30 sizeOf30 rfl ?_
  refine goL 5 [50,0] [14,12,0,6,7,8] .n (fun g2=>⟨rfl,(zH rfl (zH rfl (zH (hL _ (zMU (by omega))).rd.isSl.one zAf))),rfl,?_⟩)
  intro a w hs;refine zAE hs rfl (hs.rd0 (hL _ (zMU (by omega))).rd).isSl underlying28 rfl ?_
  intro a w hs;refine zER hs rfl rfl rfl ?_
  refine goL 3 [] [8,3,0,6,7] .n ⟨(by omega),?_⟩
  refine cl (·.drop (.c .z .n)) ?_
  intro a w hs;refine ⟨_,?_,(j + 1),rfl,hs.sub (.c rfl (.c rfl (.c rfl (.c rfl (.c rfl .n))))),by omega⟩
  omega
 have hjl:j = L.length:=by omega
 intro a w hs;rw [show zSe L j = zSe L L.length by rw [hjl]] at hs
 have hgr:=zW0 L L.length
 revert a w hs
 refine go 1 [] [18,3] .n ?_
 intro a w hs;refine zAE hs rfl (hs.rd0 hu).isSl underlying24 rfl ?_
 refine goL 1 [] [20,3] .n ?_
 have hb_:(decide (60 < ((L.length:Nat):Int))) = false:=decide_eq_false (by omega)
 intro a w hs;rw [hb_] at hs;clear hb_
 revert a w hs
 refine go 3 [] [23,21] .n ?_
 have hb_:(decide (12000 < (zSe L L.length))) = false:=decide_eq_false (by omega)
 intro a w hs;rw [hb_] at hs;clear hb_
 revert a w hs
 refine go 3 [] [2] .n ?_
 intro a w hs;exact fin hs rfl rfl ⟨rfl,rfl⟩
theorem zX1 (c:zAO) (u:Value) (L:List EvR) (w0:World) (hu:Rd w0 [] u 3 L.length (L.flatMap evV)) (hL:∀ x ∈ L,x.ok w0) (hg:Grt L):Calls Tryz.prog 6 #[.agg #[zI c.ring,zI c.window,zI c.base,zI c.gain,zI c.least,zI c.most,zI c.slack,zI c.num,zI c.den,zI c.extra,.bool (c.curve)],u] w0 (zAe w0 (.pointer none)):=by
 refine zD (F0:=[(0,.agg #[zI c.ring,zI c.window,zI c.base,zI c.gain,zI c.least,zI c.most,zI c.slack,zI c.num,zI c.den,zI c.extra,.bool (c.curve)]),(1,u)]) func6 rfl rfl rfl (.c (.c .n)) (Mem.nil _) ?_
 refine go 3 [0] [7,2] .n (fun g1=>?_)
 intro a w hs;refine zB (v:=zI 1) hs (.c rfl .n) call21 (zcE _ L _ (hs.rd0 hu) (fun x hx=>⟨(hL x hx).k,(hL x hx).at_,hs.rd0 (hL x hx).rd⟩) hg) rfl ?_
 refine goL 3 [] [4] .n ?_
 refine cl (·.drop (.c .z .n)) ?_
 intro a w hs;exact fin hs rfl rfl ⟨rfl,rfl⟩
theorem zZk (c:zAO) (u:Value) (L:List EvR) (w0:World) (hu:Rd w0 [] u 3 L.length (L.flatMap evV)) (hL:∀ x ∈ L,x.ok w0) (hg:¬ Grt L) (hk:zCT c ≠ 0):Calls Tryz.prog 6 #[.agg #[zI c.ring,zI c.window,zI c.base,zI c.gain,zI c.least,zI c.most,zI c.slack,zI c.num,zI c.den,zI c.extra,.bool (c.curve)],u] w0 (zAe w0 (.pointer none)):=by
 refine zD (F0:=[(0,.agg #[zI c.ring,zI c.window,zI c.base,zI c.gain,zI c.least,zI c.most,zI c.slack,zI c.num,zI c.den,zI c.extra,.bool (c.curve)]),(1,u)]) func6 rfl rfl rfl (.c (.c .n)) (Mem.nil _) ?_
 refine go 3 [0] [7,2] .n (fun g1=>?_)
 intro a w hs;refine zB (v:=zI 0) hs (.c rfl .n) call21 (zaQ _ L _ (hs.rd0 hu) (fun x hx=>⟨(hL x hx).k,(hL x hx).at_,hs.rd0 (hL x hx).rd⟩) hg) rfl ?_
 refine goL 3 [0] [11] (.c .z .n) ⟨rfl,?_⟩
 intro a w hs;refine zB (v:=.tuple #[.pointer (none),nI (zCT c)]) hs (.c rfl .n) call22 (zUE c hk _) rfl ?_
 refine zPx 12 7 [] [16,5] .n ?_
 have hb_:(!((((zCT c:Nat):Int):Int) == 0)) = true:=by simpa using hk
 intro a w hs;rw [hb_] at hs;clear hb_
 revert a w hs
 refine go 2 [] [4] .n ?_
 refine cl (·.drop (.c .z .n)) ?_
 intro a w hs;exact fin hs rfl rfl ⟨rfl,rfl⟩
theorem zTr (c:zAO) (u:Value) (L:List EvR) (w0:World) (hu:Rd w0 [] u 3 L.length (L.flatMap evV)) (hL:∀ x ∈ L,x.ok w0) (h:Grt L ∨ zCT c ≠ 0):Calls Tryz.prog 6 #[.agg #[zI c.ring,zI c.window,zI c.base,zI c.gain,zI c.least,zI c.most,zI c.slack,zI c.num,zI c.den,zI c.extra,.bool (c.curve)],u] w0 (zAe w0 (.pointer none)):=by
 by_cases hg:Grt L
 · exact zX1 c u L w0 hu hL hg
 · exact zZk c u L w0 hu hL hg (h.resolve_left hg)
theorem zTk (c:zAO) (u:Value) (L:List EvR) (w0:World) (hu:Rd w0 [] u 3 L.length (L.flatMap evV)) (hL:∀ x ∈ L,x.ok w0) (hg:¬ Grt L) (hk:zCT c = 0):Calls Tryz.prog 6 #[.agg #[zI c.ring,zI c.window,zI c.base,zI c.gain,zI c.least,zI c.most,zI c.slack,zI c.num,zI c.den,zI c.extra,.bool (c.curve)],u] w0 (Ret w0 [] fun z N=>∃ g Y,z = pt g 0 ∧ N = [Y] ∧ Cli g c (C0 c) Y):=by
 refine zD (F0:=[(0,.agg #[zI c.ring,zI c.window,zI c.base,zI c.gain,zI c.least,zI c.most,zI c.slack,zI c.num,zI c.den,zI c.extra,.bool (c.curve)]),(1,u)]) func6 rfl rfl rfl (.c (.c .n)) (Mem.nil _) ?_
 refine go 3 [0] [7,2] .n (fun g1=>?_)
 intro a w hs;refine zB (v:=zI 0) hs (.c rfl .n) call21 (zaQ _ L _ (hs.rd0 hu) (fun x hx=>⟨(hL x hx).k,(hL x hx).at_,hs.rd0 (hL x hx).rd⟩) hg) rfl ?_
 refine goL 3 [0] [11] (.c .z .n) ⟨rfl,?_⟩
 intro a w hs;refine zK hs (.c rfl .n) call22 .n (zRv c hk _) rfl ?_;clear hs w a;rintro _ _ a w ⟨g2,Y3,rfl,rfl,hY4⟩ hs
 revert a w hs
 refine goL 10 [] [4] .n ?_
 refine cl (·.drop (.c (.s .z) .n)) ?_
 intro a w hs;exact fin hs rfl rfl ⟨_,_,rfl,rfl,hY4⟩
end Go.Proofs.YtajjkegcfmhghaaGreat
/- Walks of TopBases: what each function does, over the program of this seat. Printed by a program of this session. -/
namespace Go.Proofs.YtajjkegcfmhghaaGreat
open Tryz
open Go Go.Sx Go.RowKit
set_option linter.unusedVariables false
set_option linter.unusedSimpArgs false
set_option maxRecDepth 4000
set_option maxHeartbeats 1000000

theorem zIb (c:zAO) (u:Value) (L:List EvR) (r:zX) (hr:r.wf) (w0:World) (hu:Rd w0 [] u 3 L.length (L.flatMap evV)) (hL:∀ x ∈ L,x.ok w0) (hno:Grt L ∨ zCT c ≠ 0):Calls Tryz.prog 4 #[.agg #[zI c.ring,zI c.window,zI c.base,zI c.gain,zI c.least,zI c.most,zI c.slack,zI c.num,zI c.den,zI c.extra,.bool (c.curve)],u,.agg #[zI r.k,zI r.id,zI r.p0,zI r.p1,zI r.p2,zI r.v0,zI r.v1,zI r.v2,.int .u16 (((r.a).toNat:Nat):Int)]] w0 (zAe w0 (.bool true)):=by
 have hue:=hu.le
 simp only [maxLen] at hue
 refine zD (F0:=[(0,.agg #[zI c.ring,zI c.window,zI c.base,zI c.gain,zI c.least,zI c.most,zI c.slack,zI c.num,zI c.den,zI c.extra,.bool (c.curve)]),(1,u),(2,.agg #[zI r.k,zI r.id,zI r.p0,zI r.p1,zI r.p2,zI r.v0,zI r.v1,zI r.v2,.int .u16 (((r.a).toNat:Nat):Int)])]) func4 rfl rfl rfl (.c (.c (.c .n))) (Mem.nil _) ?_
 refine go 5 [0,0,1] [18,17,5,1] .n (fun g1=>fun g2=>⟨rfl,?_⟩)
 intro a w hs;refine zB (v:=.pointer (none)) hs (.c rfl (.c rfl .n)) call6 (zTr c _ L _ (hs.rd0 hu) (fun x hx=>⟨(hL x hx).k,(hL x hx).at_,hs.rd0 (hL x hx).rd⟩) hno) rfl ?_
 refine goL 1 [] [7,5,1] .n ?_
 intro a w hs;refine zB (v:=.bool (true)) hs .n call7 (zH8 _) rfl ?_
 refine goL 6 [] [] .n ?_
 intro a w hs;refine zB (v:=.bool (true)) hs .n call7 (zH8 _) rfl ?_
 refine goL 1 [] [6] .n ?_
 refine cl (·.drop (.c (.s .z) (.c .z .n))) ?_
 intro a w hs;exact fin hs rfl rfl ⟨rfl,rfl⟩
theorem zKS (c:zAO) (u:Value) (L:List EvR) (r:zX) (hr:r.wf) (w0:World) (hu:Rd w0 [] u 3 L.length (L.flatMap evV)) (hL:∀ x ∈ L,x.ok w0) (hg:¬ Grt L) (hk:zCT c = 0):Calls Tryz.prog 4 #[.agg #[zI c.ring,zI c.window,zI c.base,zI c.gain,zI c.least,zI c.most,zI c.slack,zI c.num,zI c.den,zI c.extra,.bool (c.curve)],u,.agg #[zI r.k,zI r.id,zI r.p0,zI r.p1,zI r.p2,zI r.v0,zI r.v1,zI r.v2,.int .u16 (((r.a).toNat:Nat):Int)]] w0 (zAe w0 (.bool true)):=by
 have hue:=hu.le
 simp only [maxLen] at hue
 have hL60:L.length ≤ 60:=by unfold Grt at hg;omega
 have hkr:=zLG hk
 have hr1:∀ x ∈ [r],x.wf:=by intro x hx;rw [List.mem_singleton] at hx;rw [hx];exact hr
 refine zD (F0:=[(0,.agg #[zI c.ring,zI c.window,zI c.base,zI c.gain,zI c.least,zI c.most,zI c.slack,zI c.num,zI c.den,zI c.extra,.bool (c.curve)]),(1,u),(2,.agg #[zI r.k,zI r.id,zI r.p0,zI r.p1,zI r.p2,zI r.v0,zI r.v1,zI r.v2,.int .u16 (((r.a).toNat:Nat):Int)])]) func4 rfl rfl rfl (.c (.c (.c .n))) (Mem.nil _) ?_
 refine go 5 [0,0,1] [18,17,5,1] .n (fun g1=>fun g2=>⟨rfl,?_⟩)
 intro a w hs;refine zK hs (.c rfl (.c rfl .n)) call6 .n (zTk c _ L _ (hs.rd0 hu) (fun x hx=>⟨(hL x hx).k,(hL x hx).at_,hs.rd0 (hL x hx).rd⟩) hg hk) rfl ?_;clear hs w a;rintro _ _ a w ⟨g3,Y4,rfl,rfl,hY5⟩ hs
 revert a w hs
 refine goL 1 [] [7,5,1] .n ?_
 intro a w hs;refine zB (v:=.bool (true)) hs .n call7 (zH8 _) rfl ?_
 refine goL 7 [] [27,7,5] .n ?_
 intro a w hs;refine zAE hs rfl (hs.rd0 hu).isSl underlying24 rfl ?_
 refine goL 1 [] [29,28,27,7,5] .n ?_
 intro a w hs;refine zCJ (fun mm_ a w=>∃ j:Nat,∃ Y:HA,∃ C:CS,mm_ = L.length - j ∧ St 87 [(5,pt g2 0),(7,pt g3 0),(27,u),(28,nI L.length),(29,nI j)] w0 [] [Y,blk g2 [zI r.k,zI r.id,zI r.p0,zI r.p1,zI r.p2,zI r.v0,zI r.v1,zI r.v2,.int .u16 (((r.a).toNat:Nat):Int)] 55,blk g1 [zI c.ring,zI c.window,zI c.base,zI c.gain,zI c.least,zI c.most,zI c.slack,zI c.num,zI c.den,zI c.extra,.bool (c.curve)] 23] a w ∧ j ≤ L.length ∧ Cli g3 c C Y ∧ C.ok c ∧ (∀ i,C.σ.n i ≤ j) ∧ C.fr ≤ j ∧ Abv C) ⟨0,Y4,(C0 c),rfl,hs.sub (.c rfl (.c rfl (.c rfl (.c rfl (.c rfl .n))))),by omega,hY5,(zat hk),(fun i=>Nat.le_refl 0),(Nat.le_refl 0),(Abv.zero c)⟩ ?_
 clear hs w a;rintro mm_ a w ⟨j,Y,C,rfl,hs,hI1_0,hI1_1,hI1_2,hI1_3,hI1_4,hI1_5⟩
 revert a w hs
 refine go 1 [] [30,5,7,27,28,29] .n ?_
 refine ifG rfl (fun c_6=>?_) (fun c_6=>?_)
 ·
  refine go 0 [] [5,7,27,28,29] .n ?_
  intro a w hs;refine zBh (j:=j) hs rfl rfl (hs.rd0 hu) rfl (by omega) underlying24 sizeOf30 rfl ?_
  intro a w hs;refine zBC (cs:=evV (L.getD j default)) hs rfl (hs.rd0 hu) (zAi zG7 L j (by omega)) (by rw [zAa zG7];omega) (by omega) isAgg30 sizeOf30 rfl ?_
  have hxo:=hL _ (zMU (l:=L) (i:=j) (by omega));have hxk:=hxo.k;have hxa:=hxo.at_
  refine goL 4 [50,0] [34,33,5,7,27,28,29] .n (fun g7=>⟨rfl,(zH rfl (zH rfl (zH (hL _ (zMU (by omega))).rd.isSl.one zAf))),rfl,?_⟩)
  intro a w hs;refine zK hs (.c rfl (.c rfl .n)) call8 (.c (.s .z) .n) (za5 hI1_1 hk hI1_2 (fun i=>Nat.le_trans (hI1_3 i) (by omega)) (by omega) (L.getD j default) ⟨by omega,by omega⟩ _ (hs.mem.del (.s .z)) (hs.mem.rd1 (hL _ (zMU (by omega))).rd (.c (.s .z) .n)) ⟨by omega,by omega⟩) rfl ?_;clear hs w a;rintro _ _ a w ⟨v10,rfl,Y8,rfl,hY9⟩ hs
  revert a w hs
  refine goL 2 [] [29,5,7,27,28] .n ⟨(by omega),?_⟩
  refine cl (·.drop (.c (.s (.s .z)) (.c .z .n))) ?_
  intro a w hs;refine ⟨_,?_,(j + 1),Y8,(cDo c C (L.getD j default)),rfl,hs.sub (.c rfl (.c rfl (.c rfl (.c rfl (.c rfl .n))))),by omega,hY9,(zaK hk ⟨by omega,by omega⟩ hI1_2),(fun i=>Nat.le_trans (zcR _ _ _ i) (Nat.succ_le_succ (hI1_3 i))),(Nat.le_trans (zUu _ _ _) (Nat.succ_le_succ hI1_4)),(hI1_5.do_ (Cli.oks hI1_1))⟩
  omega
 refine go 2 [] [37,10,5,7] .n ?_
 intro a w hs;refine zK hs (.c rfl .n) call14 .n (zUV hI1_1 _ (hs.mem.del .z)) rfl ?_;clear hs w a;rintro v11 _ a w rfl hs
 have hol:=(Cli.oks hI1_1).le;have hom:=hkr.2.2
 refine zAE hs rfl (zO (hs.mem.del .z)).isSl underlying56 rfl ?_
 refine goL 1 [] [40,39,38,10,5,7] .n ?_
 intro a w hs;refine zCJ (fun mm_ a w=>∃ i:Nat,∃ top:Int,mm_ = C.σ.l.length - i ∧ St 87 [(5,pt g2 0),(7,pt g3 0),(10,zI top),(38,v11),(39,nI C.σ.l.length),(40,nI i)] w0 [] [row v11 2 1 C.σ.l.length (iV (C.σ.l.map zAC.t)),Y,blk g2 [zI r.k,zI r.id,zI r.p0,zI r.p1,zI r.p2,zI r.v0,zI r.v1,zI r.v2,.int .u16 (((r.a).toNat:Nat):Int)] 55,blk g1 [zI c.ring,zI c.window,zI c.base,zI c.gain,zI c.least,zI c.most,zI c.slack,zI c.num,zI c.den,zI c.extra,.bool (c.curve)] 23] a w ∧ i ≤ C.σ.l.length ∧ 0 ≤ top ∧ top ≤ 4294967295 ∧ ∀ e,e < i → (C.σ.l.map zAC.t).getD e 0 ≤ top) ⟨0,0,rfl,hs.sub (.c rfl (.c rfl (.c rfl (.c rfl (.c rfl (.c rfl .n)))))),by omega,by omega,by omega,(fun e he=>absurd he (Nat.not_lt_zero e))⟩ ?_
 clear hs w a;rintro mm_ a w ⟨i,top,rfl,hs,hI2_0,hI2_1,hI2_2,hI2_3⟩
 revert a w hs
 refine go 1 [] [41,5,7,10,38,39,40] .n ?_
 refine ifG rfl (fun c_12=>?_) (fun c_12=>?_)
 ·
  refine go 0 [] [5,7,10,38,39,40] .n ?_
  intro a w hs;refine zA2 (j:=i) hs rfl rfl (zO (hs.mem.del .z)) rfl (by omega) underlying56 sizeOf2 rfl ?_
  intro a w hs;refine zBr (u:=zI ((C.σ.l.map zAC.t).getD i 0)) hs rfl (zO (hs.mem.del .z)) (zJm (C.σ.l.map zAC.t) i (by rw [List.length_map];omega)) isAgg2 rfl ?_
  have htr:=zVF (Cli.oks hI1_1) (i:=i) (by omega)
  refine goL 7 [] [40,10,5,7,38,39] .n ⟨(by omega),?_⟩
  intro a w hs;refine ⟨_,?_,(i + 1),(max top ((C.σ.l.map zAC.t).getD i 0)),rfl,hs.sub (.c rfl (.c rfl (.c rfl (.c rfl (.c rfl (.c rfl .n)))))),by omega,by omega,by omega,(zUm hI2_3)⟩
  omega
 refine go 2 [] [49,5,7,10] .n ?_
 refine ifG rfl (fun c_13=>?_) (fun c_13=>?_)
 ·
  refine go 1 [] [6] .n ?_
  refine cl (·.drop (.c (.s (.s (.s .z))) (.c (.s (.s .z)) (.c (.s .z) (.c .z .n))))) ?_
  intro a w hs;exact fin hs rfl rfl ⟨rfl,rfl⟩
 refine go 7 [0] [57,7] (.c (.s (.s .z)) .n) ⟨(by omega),(by omega),rfl,fun g14=>?_⟩
 intro a w hs;refine zK hs (.c rfl .n) call15 .n (zLH (top + 9) 2305843009213693952 (top + 8) _ ([r]) _ (by omega) (by omega) (by omega) (zAF (m:=1) (size:=9) (hs.mem.del .z) rfl (by decide)) hr1) rfl ?_;clear hs w a;rintro _ _ a w ⟨v15,rfl,rfl⟩ hs
 have hk16:=zFA (top + 9) 2305843009213693952 (top + 8) ([r])
 revert a w hs
 refine goL 7 [] [62,13,7] .n ?_
 refine ifG rfl (fun c_17=>?_) (fun c_17=>?_)
 ·
  refine go 1 [] [63] .n ?_
  intro a w hs;refine zAE hs rfl (zO (hs.mem.del .z)).isSl underlying28 rfl ?_
  refine goL 1 [] [65] .n ?_
  have hb_:(((((gwB (top + 9) 2305843009213693952 (top + 8) ([r])).length:Nat):Int):Int) == 0) = true:=by rw [show gwB (top + 9) 2305843009213693952 (top + 8) [r] = [] from if_pos (by omega)];rfl
  intro a w hs;rw [hb_] at hs;clear hb_
  revert a w hs
  refine go 1 [] [6] .n ?_
  refine cl (·.drop (.c (.s (.s (.s (.s (.s .z))))) (.c (.s (.s (.s (.s .z)))) (.c (.s (.s (.s .z))) (.c (.s (.s .z)) (.c (.s .z) (.c .z .n))))))) ?_
  intro a w hs;exact fin hs rfl rfl ⟨rfl,rfl⟩
 have hG:(zA (gwB (top + 9) 2305843009213693952 (top + 8) [r])) = ⟨top + 9,2305843009213693952,top + 8,[r],0⟩:=zFe hr1 (by omega)
 have hta:∀ x ∈ C.σ.l,x.t ≤ top:=zac (fun e he=>hI2_3 e (by omega))
 have hce:zEN c C (zA (gwB (top + 9) 2305843009213693952 (top + 8) [r])) = 14:=zZU (Cli.oks hI1_1) hI1_5 hI2_1 hta (by rw [hG]) (by rw [hG]) (by rw [hG])
 have hbn:=zcT (x:=5) hce
 have hnr:zFY C.σ.n 14 = C.σ.n 14:=zSh (n:=C.σ.n) (i:=14) (by decide) (by decide)
 have hn14:=hI1_3 14
 refine go 1 [] [66,13,7] .n ?_
 intro a w hs;refine zB (v:=nI (zFY C.σ.n 14)) hs (.c rfl (.c rfl .n)) call16 (zH2 hI1_1 14 ⟨by omega,by omega⟩ _ (hs.mem.del (.s (.s (.s (.s .z)))))) rfl ?_
 refine goL 1 [] [68,67,13,7] .n ?_
 intro a w hs;refine zB (v:=nI (C.σ.n 0)) hs (.c rfl .n) call17 (zL9 hI1_1  _ (hs.mem.del (.s (.s (.s (.s .z)))))) rfl ?_
 refine goL 4 [] [71,70,16,15,7] .n ?_
 intro a w hs;refine zK hs (.c rfl (.c rfl (.c rfl .n))) call18 (.c (.s (.s (.s (.s .z)))) .n) (zKN hI1_1 hk hI1_2 (fun i=>Nat.le_trans (hI1_3 i) (by omega)) (by omega) 5 (by decide) _ (hs.mem.del (.s (.s (.s (.s .z))))) (hs.mem.rdrow .z (.c (.s (.s (.s .z))) .n))) rfl ?_;clear hs w a;rintro _ _ a w ⟨rfl,Y18,rfl,hY19⟩ hs
 revert a w hs
 refine goL 1 [] [73,16,15,7] .n ?_
 have hb_:((((zEN c C (zA (gwB (top + 9) 2305843009213693952 (top + 8) ([r]))):Nat):Int):Int) == 14) = true:=by rw [hce];rfl
 intro a w hs;rw [hb_] at hs;clear hb_
 revert a w hs
 refine go 2 [] [75,74,16,15,7] .n ?_
 intro a w hs;refine zF hs rfl rfl rfl ?_
 refine zB (v:=nI (zFY (zIw c C 5 (zA (gwB (top + 9) 2305843009213693952 (top + 8) ([r])))).σ.n 14)) hs (.c rfl (.c rfl .n)) call16 (zH2 hY19 14 ⟨by omega,by omega⟩ _ (hs.mem.del .z)) rfl ?_
 refine goL 3 [] [79,74,16,7] .n ⟨(by omega),?_⟩
 have hb_:((((zFY (zIw c C 5 (zA (gwB (top + 9) 2305843009213693952 (top + 8) ([r])))).σ.n 14:Nat):Int):Int) == (((zFY C.σ.n 14:Nat):Int) + 1)) = true:=by rw [hbn.1];simp
 intro a w hs;rw [hb_] at hs;clear hb_
 revert a w hs
 refine go 3 [] [82,81,16] .n ?_
 intro a w hs;refine zF hs rfl rfl rfl ?_
 refine zB (v:=nI ((zIw c C 5 (zA (gwB (top + 9) 2305843009213693952 (top + 8) ([r])))).σ.n 0)) hs (.c rfl .n) call17 (zL9 hY19  _ (hs.mem.del .z)) rfl ?_
 refine goL 2 [] [85,81] .n ?_
 have hb_:(((((zIw c C 5 (zA (gwB (top + 9) 2305843009213693952 (top + 8) ([r])))).σ.n 0:Nat):Int):Int) == ((C.σ.n 0:Nat):Int)) = true:=by rw [hbn.2];exact beq_self_eq_true _
 intro a w hs;rw [hb_] at hs;clear hb_
 revert a w hs
 refine go 2 [] [6] .n ?_
 refine cl (·.drop (.c (.s (.s (.s (.s (.s .z))))) (.c (.s (.s (.s (.s .z)))) (.c (.s (.s (.s .z))) (.c (.s (.s .z)) (.c (.s .z) (.c .z .n))))))) ?_
 intro a w hs;exact fin hs rfl rfl ⟨rfl,rfl⟩
theorem zMq (c:zAO) (u:Value) (L:List EvR) (r:zX) (hr:r.wf) (w0:World) (hu:Rd w0 [] u 3 L.length (L.flatMap evV)) (hL:∀ x ∈ L,x.ok w0):Calls Tryz.prog 4 #[.agg #[zI c.ring,zI c.window,zI c.base,zI c.gain,zI c.least,zI c.most,zI c.slack,zI c.num,zI c.den,zI c.extra,.bool (c.curve)],u,.agg #[zI r.k,zI r.id,zI r.p0,zI r.p1,zI r.p2,zI r.v0,zI r.v1,zI r.v2,.int .u16 (((r.a).toNat:Nat):Int)]] w0 (zAe w0 (.bool true)):=by
 by_cases hg:Grt L
 · exact zIb c u L r hr w0 hu hL (.inl hg)
 · by_cases hk:zCT c = 0
   · exact zKS c u L r hr w0 hu hL hg hk
   · exact zIb c u L r hr w0 hu hL (.inr hk)
end Go.Proofs.YtajjkegcfmhghaaGreat
