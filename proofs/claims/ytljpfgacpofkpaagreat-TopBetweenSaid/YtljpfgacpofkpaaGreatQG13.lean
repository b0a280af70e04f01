import Derived.Test.YtljpfgacpofkpaaGreatQG7
import Derived.Test.YtljpfgacpofkpaaGreatQG12
import Derived.Test.YtljpfgacpofkpaaGreatQSxBasB
import Derived.Shelf.SlSortCmp.WholeK
import Derived.Shelf.SlicesG.Cmp
import Derived.Test.YtljpfgacpofkpaaGreatProg
import Derived.Test.YtljpfgacpofkpaaGreatQSxRecs
import Derived.Shelf.SlSortCmp.NoneTotal
import Derived.Test.YtljpfgacpofkpaaGreatQSxStos
import Derived.KernelRfl
import Derived.Test.YtljpfgacpofkpaaGreatQG9
set_option linter.unusedVariables false
set_option linter.unusedSimpArgs false
namespace Go.Proofs.YtljpfgacpofkpaaGreat
open Tryz
open Go Go.Sx Go.RowKit
set_option maxRecDepth 4000
set_option maxHeartbeats 1000000
theorem zM3 (c:zAS) (w0:World):Calls Tryz.prog 67 #[.agg #[zI c.ring,zI c.window,zI c.base,zI c.gain,zI c.least,zI c.most,zI c.slack,zI c.num,zI c.den,zI c.extra,.bool (c.curve)]] w0 (zAh w0 (nI (zCb c))):=by
 refine zG (F0:=[(0,.agg #[zI c.ring,zI c.window,zI c.base,zI c.gain,zI c.least,zI c.most,zI c.slack,zI c.num,zI c.den,zI c.extra,.bool (c.curve)])]) func67 rfl rfl rfl (.c .n) (Mem.nil _) ?_
 refine go 6 [0,0] [9,1] .n (λg1=>⟨rfl,?_⟩)
 intro a w hs;refine zX (b:=decide (c.ring<1)) (λc_2=>?_) (λc_2=>?_)
 ·
  rw [c_2] at hs
  replace c_2:=of_decide_eq_true c_2
  revert a w hs
  refine go 16 [] [2] .n ?_
  refine cl (·.drop (.c .z .n)) ?_
  intro a w hs;exact fin hs rfl rfl ⟨congrArg (λn:Nat=>Value.int .i64 (n:Int)) (zNW (by unfold zLk;omega)),rfl⟩
 rw [c_2] at hs
 replace c_2:=of_decide_eq_false c_2
 revert a w hs
 refine go 5 [0] [14,1] (.c .z .n) ⟨rfl,?_⟩
 intro a w hs;refine zX (b:=decide (64<c.ring)) (λc_3=>?_) (λc_3=>?_)
 ·
  rw [c_3] at hs
  replace c_3:=of_decide_eq_true c_3
  revert a w hs
  refine go 11 [] [2] .n ?_
  refine cl (·.drop (.c .z .n)) ?_
  intro a w hs;exact fin hs rfl rfl ⟨congrArg (λn:Nat=>Value.int .i64 (n:Int)) (zNW (by unfold zLk;omega)),rfl⟩
 rw [c_3] at hs
 replace c_3:=of_decide_eq_false c_3
 revert a w hs
 refine go 5 [0] [19,1] (.c .z .n) ⟨rfl,?_⟩
 intro a w hs;refine zX (b:=decide (c.window<1)) (λc_4=>?_) (λc_4=>?_)
 ·
  rw [c_4] at hs
  replace c_4:=of_decide_eq_true c_4
  revert a w hs
  refine go 6 [] [2] .n ?_
  refine cl (·.drop (.c .z .n)) ?_
  intro a w hs;exact fin hs rfl rfl ⟨congrArg (λn:Nat=>Value.int .i64 (n:Int)) (zNW (by unfold zLk;omega)),rfl⟩
 rw [c_4] at hs
 replace c_4:=of_decide_eq_false c_4
 revert a w hs
 refine go 4 [0] [23,1] (.c .z .n) ⟨rfl,?_⟩
 refine ifG rfl (λc_5=>?_) (λc_5=>?_)
 ·
  refine go 1 [] [2] .n ?_
  refine cl (·.drop (.c .z .n)) ?_
  intro a w hs;exact fin hs rfl rfl ⟨congrArg (λn:Nat=>Value.int .i64 (n:Int)) (zNW (by unfold zLk;omega)),rfl⟩
 refine go 1 [0] [24,1] (.c .z .n) ⟨rfl,?_⟩
 intro a w hs;refine zB (v:=nI (zHL c)) hs (.c rfl .n) call105 (zMT c _) rfl ?_
 refine goL 3 [] [27,3,1] .n ?_
 refine ifG rfl (λc_6=>?_) (λc_6=>?_)
 ·
  refine go 2 [] [2] .n ?_
  refine cl (·.drop (.c .z .n)) ?_
  intro a w hs;exact fin hs rfl rfl ⟨congrArg (λn:Nat=>Value.int .i64 (n:Int)) (zam (by unfold zLk;omega) (by assumption)),rfl⟩
 refine go 4 [0,0] [33,31,1] (.c .z .n) ⟨rfl,rfl,?_⟩
 intro a w hs;refine zB (v:=.tuple #[zI (bif zHM c.num c.den==0 then zED 0 c.num c.den else 0),nI (zHM c.num c.den)]) hs (.c rfl (.c rfl (.c rfl .n))) call106 (zOC 0 c.num c.den (by omega) _) rfl ?_
 refine goL 8 [] [39,1] .n ?_
 intro a w hs;refine zX (b:=!((((zHM c.num c.den:Nat):Int):Int)==0)) (λc_7=>?_) (λc_7=>?_)
 ·
  rw [c_7] at hs
  replace c_7:=zFW c_7
  replace c_7:=zAW c_7
  revert a w hs
  refine go 11 [] [2] .n ?_
  refine cl (·.drop (.c .z .n)) ?_
  intro a w hs;exact fin hs rfl rfl ⟨congrArg (λn:Nat=>Value.int .i64 (n:Int)) (zRh (by unfold zLk;omega) (by assumption) (by omega)),rfl⟩
 rw [c_7] at hs
 replace c_7:=zFX c_7
 replace c_7:=eq_of_beq c_7
 revert a w hs
 refine go 5 [0] [44,1] (.c .z .n) ⟨rfl,?_⟩
 intro a w hs;refine zX (b:=decide (c.extra<0)) (λc_8=>?_) (λc_8=>?_)
 ·
  rw [c_8] at hs
  replace c_8:=of_decide_eq_true c_8
  revert a w hs
  refine go 6 [] [2] .n ?_
  refine cl (·.drop (.c .z .n)) ?_
  intro a w hs;exact fin hs rfl rfl ⟨congrArg (λn:Nat=>Value.int .i64 (n:Int)) (zRh (by unfold zLk;omega) (by assumption) (by omega)),rfl⟩
 rw [c_8] at hs
 replace c_8:=of_decide_eq_false c_8
 revert a w hs
 refine go 4 [0] [48] (.c .z .n) ⟨rfl,?_⟩
 refine ifG rfl (λc_9=>?_) (λc_9=>?_)
 ·
  refine go 1 [] [2] .n ?_
  refine cl (·.drop (.c .z .n)) ?_
  intro a w hs;exact fin hs rfl rfl ⟨congrArg (λn:Nat=>Value.int .i64 (n:Int)) (zRh (by unfold zLk;omega) (by assumption) (by omega)),rfl⟩
 refine go 1 [] [2] .n ?_
 refine cl (·.drop (.c .z .n)) ?_
 intro a w hs;exact fin hs rfl rfl ⟨congrArg (λn:Nat=>Value.int .i64 (n:Int)) (zbC (by unfold zLk;omega) (by assumption) (by omega)),rfl⟩
end Go.Proofs.YtljpfgacpofkpaaGreat
namespace Go.Proofs
open Go.Shelf
def Tryz.sortE_ren : Go.Shelf.Ren:=⟨fun | 6=>236 | 15=>197 | 14=>279 | 28=>247 | 29=>248 | 20=>295 | 21=>296 | 22=>297 | 23=>298 | 24=>299 | 25=>300 | 26=>301 | 27=>302 | 46=>306 | 47=>282 | 48=>283 | 49=>307 | 50=>308 | 57=>309 | n=>n,fun | 22=>44 | 24=>48 | 25=>290 | 3=>3 | 39=>232 | 0=>0 | 53=>230 | 55=>252 | 4=>4 | 46=>345 | 45=>344 | 50=>211 | 5=>5 | 9=>9 | 66=>374 | 70=>378 | 76=>390 | 77=>391 | n=>n,fun | n=>n⟩
theorem Tryz.sortE : Go.Proofs.SlLaysF0.n6 Tryz.prog Tryz.sortE_ren:={
 mixed:=by kernel_rfl
 f6:=⟨Tryz.f236.name,by decide,Tryz.func236.trans (congrArg some (by kernel_rfl))⟩
 f14:=⟨Tryz.f279.name,by decide,Tryz.func279.trans (congrArg some (by kernel_rfl))⟩
 f15:=Tryz.func197.trans (congrArg some (by kernel_rfl))
 f20:=⟨Tryz.f295.name,by decide,Tryz.func295.trans (congrArg some (by kernel_rfl))⟩
 f21:=⟨Tryz.f296.name,by decide,Tryz.func296.trans (congrArg some (by kernel_rfl))⟩
 f22:=⟨Tryz.f297.name,by decide,Tryz.func297.trans (congrArg some (by kernel_rfl))⟩
 f23:=⟨Tryz.f298.name,by decide,Tryz.func298.trans (congrArg some (by kernel_rfl))⟩
 f24:=⟨Tryz.f299.name,by decide,Tryz.func299.trans (congrArg some (by kernel_rfl))⟩
 f25:=⟨Tryz.f300.name,by decide,Tryz.func300.trans (congrArg some (by kernel_rfl))⟩
 f26:=⟨Tryz.f301.name,by decide,Tryz.func301.trans (congrArg some (by kernel_rfl))⟩
 f27:=⟨Tryz.f302.name,by decide,Tryz.func302.trans (congrArg some (by kernel_rfl))⟩
 f28:=Tryz.func247.trans (congrArg some (by kernel_rfl))
 f29:=Tryz.func248.trans (congrArg some (by kernel_rfl))
 f46:=⟨Tryz.f306.name,by decide,Tryz.func306.trans (congrArg some (by kernel_rfl))⟩
 f47:=Tryz.func282.trans (congrArg some (by kernel_rfl))
 f48:=Tryz.func283.trans (congrArg some (by kernel_rfl))
 f49:=⟨Tryz.f307.name,by decide,Tryz.func307.trans (congrArg some (by kernel_rfl))⟩
 f50:=⟨Tryz.f308.name,by decide,Tryz.func308.trans (congrArg some (by kernel_rfl))⟩
 f57:=⟨Tryz.f309.name,by decide,Tryz.func309.trans (congrArg some (by kernel_rfl))⟩
 t0:=Tryz.underlying0
 a0:=Tryz.isAgg0
 z0:=Tryz.sizeOf0
 v0:=Tryz.zeroValue0
 t3:=Tryz.underlying3
 a3:=Tryz.isAgg3
 z3:=Tryz.sizeOf3
 v3:=Tryz.zeroValue3
 t4:=Tryz.underlying4
 a4:=Tryz.isAgg4
 z4:=Tryz.sizeOf4
 v4:=Tryz.zeroValue4
 t5:=Tryz.underlying5
 a5:=Tryz.isAgg5
 z5:=Tryz.sizeOf5
 v5:=Tryz.zeroValue5
 t9:=Tryz.underlying9
 a9:=Tryz.isAgg9
 z9:=Tryz.sizeOf9
 v9:=Tryz.zeroValue9
 t22:=Tryz.underlying44
 a22:=Tryz.isAgg44
 z22:=Tryz.sizeOf44
 v22:=Tryz.zeroValue44
 t25:=Tryz.underlying290
 a25:=Tryz.isAgg290
 z25:=Tryz.sizeOf290
 v25:=Tryz.zeroValue290
 t39:=Tryz.underlying232
 a39:=Tryz.isAgg232
 z39:=Tryz.sizeOf232
 v39:=Tryz.zeroValue232
 t45:=Tryz.underlying344
 a45:=Tryz.isAgg344
 z45:=Tryz.sizeOf344
 v45:=Tryz.zeroValue344
 t46:=Tryz.underlying345
 a46:=Tryz.isAgg345
 z46:=Tryz.sizeOf345
 v46:=Tryz.zeroValue345
 t50:=Tryz.underlying211
 a50:=Tryz.isAgg211
 z50:=Tryz.sizeOf211
 v50:=Tryz.zeroValue211
 t53:=Tryz.underlying230
 a53:=Tryz.isAgg230
 z53:=Tryz.sizeOf230
 v53:=Tryz.zeroValue230
 t55:=Tryz.underlying252
 a55:=Tryz.isAgg252
 z55:=Tryz.sizeOf252
 v55:=Tryz.zeroValue252
 t66:=Tryz.underlying374
 a66:=Tryz.isAgg374
 z66:=Tryz.sizeOf374
 v66:=Tryz.zeroValue374
 t70:=Tryz.underlying378
 a70:=Tryz.isAgg378
 z70:=Tryz.sizeOf378
 v70:=Tryz.zeroValue378
 t76:=Tryz.underlying390
 a76:=Tryz.isAgg390
 z76:=Tryz.sizeOf390
 v76:=Tryz.zeroValue390
 t77:=Tryz.underlying391
 a77:=Tryz.isAgg391
 z77:=Tryz.sizeOf391
 v77:=Tryz.zeroValue391 }
def Tryz.sortR_ren : Go.Shelf.Ren:=⟨fun | 6=>141 | 15=>197 | 14=>196 | 28=>247 | 29=>248 | 20=>239 | 21=>240 | 22=>241 | 23=>242 | 24=>243 | 25=>244 | 26=>245 | 27=>246 | 46=>281 | 47=>282 | 48=>283 | 49=>284 | 50=>285 | 57=>303 | n=>n,fun | 22=>114 | 24=>161 | 25=>228 | 3=>3 | 39=>232 | 0=>0 | 53=>230 | 55=>252 | 4=>4 | 46=>345 | 45=>344 | 50=>211 | 5=>5 | 9=>9 | 66=>374 | 70=>378 | 76=>390 | 77=>391 | n=>n,fun | n=>n⟩
theorem Tryz.sortR : Go.Proofs.SlLaysF0.n6 Tryz.prog Tryz.sortR_ren:={
 mixed:=by kernel_rfl
 f6:=⟨Tryz.f141.name,by decide,Tryz.func141.trans (congrArg some (by kernel_rfl))⟩
 f14:=⟨Tryz.f196.name,by decide,Tryz.func196.trans (congrArg some (by kernel_rfl))⟩
 f15:=Tryz.func197.trans (congrArg some (by kernel_rfl))
 f20:=⟨Tryz.f239.name,by decide,Tryz.func239.trans (congrArg some (by kernel_rfl))⟩
 f21:=⟨Tryz.f240.name,by decide,Tryz.func240.trans (congrArg some (by kernel_rfl))⟩
 f22:=⟨Tryz.f241.name,by decide,Tryz.func241.trans (congrArg some (by kernel_rfl))⟩
 f23:=⟨Tryz.f242.name,by decide,Tryz.func242.trans (congrArg some (by kernel_rfl))⟩
 f24:=⟨Tryz.f243.name,by decide,Tryz.func243.trans (congrArg some (by kernel_rfl))⟩
 f25:=⟨Tryz.f244.name,by decide,Tryz.func244.trans (congrArg some (by kernel_rfl))⟩
 f26:=⟨Tryz.f245.name,by decide,Tryz.func245.trans (congrArg some (by kernel_rfl))⟩
 f27:=⟨Tryz.f246.name,by decide,Tryz.func246.trans (congrArg some (by kernel_rfl))⟩
 f28:=Tryz.func247.trans (congrArg some (by kernel_rfl))
 f29:=Tryz.func248.trans (congrArg some (by kernel_rfl))
 f46:=⟨Tryz.f281.name,by decide,Tryz.func281.trans (congrArg some (by kernel_rfl))⟩
 f47:=Tryz.func282.trans (congrArg some (by kernel_rfl))
 f48:=Tryz.func283.trans (congrArg some (by kernel_rfl))
 f49:=⟨Tryz.f284.name,by decide,Tryz.func284.trans (congrArg some (by kernel_rfl))⟩
 f50:=⟨Tryz.f285.name,by decide,Tryz.func285.trans (congrArg some (by kernel_rfl))⟩
 f57:=⟨Tryz.f303.name,by decide,Tryz.func303.trans (congrArg some (by kernel_rfl))⟩
 t0:=Tryz.underlying0
 a0:=Tryz.isAgg0
 z0:=Tryz.sizeOf0
 v0:=Tryz.zeroValue0
 t3:=Tryz.underlying3
 a3:=Tryz.isAgg3
 z3:=Tryz.sizeOf3
 v3:=Tryz.zeroValue3
 t4:=Tryz.underlying4
 a4:=Tryz.isAgg4
 z4:=Tryz.sizeOf4
 v4:=Tryz.zeroValue4
 t5:=Tryz.underlying5
 a5:=Tryz.isAgg5
 z5:=Tryz.sizeOf5
 v5:=Tryz.zeroValue5
 t9:=Tryz.underlying9
 a9:=Tryz.isAgg9
 z9:=Tryz.sizeOf9
 v9:=Tryz.zeroValue9
 t22:=Tryz.underlying114
 a22:=Tryz.isAgg114
 z22:=Tryz.sizeOf114
 v22:=Tryz.zeroValue114
 t25:=Tryz.underlying228
 a25:=Tryz.isAgg228
 z25:=Tryz.sizeOf228
 v25:=Tryz.zeroValue228
 t39:=Tryz.underlying232
 a39:=Tryz.isAgg232
 z39:=Tryz.sizeOf232
 v39:=Tryz.zeroValue232
 t45:=Tryz.underlying344
 a45:=Tryz.isAgg344
 z45:=Tryz.sizeOf344
 v45:=Tryz.zeroValue344
 t46:=Tryz.underlying345
 a46:=Tryz.isAgg345
 z46:=Tryz.sizeOf345
 v46:=Tryz.zeroValue345
 t50:=Tryz.underlying211
 a50:=Tryz.isAgg211
 z50:=Tryz.sizeOf211
 v50:=Tryz.zeroValue211
 t53:=Tryz.underlying230
 a53:=Tryz.isAgg230
 z53:=Tryz.sizeOf230
 v53:=Tryz.zeroValue230
 t55:=Tryz.underlying252
 a55:=Tryz.isAgg252
 z55:=Tryz.sizeOf252
 v55:=Tryz.zeroValue252
 t66:=Tryz.underlying374
 a66:=Tryz.isAgg374
 z66:=Tryz.sizeOf374
 v66:=Tryz.zeroValue374
 t70:=Tryz.underlying378
 a70:=Tryz.isAgg378
 z70:=Tryz.sizeOf378
 v70:=Tryz.zeroValue378
 t76:=Tryz.underlying390
 a76:=Tryz.isAgg390
 z76:=Tryz.sizeOf390
 v76:=Tryz.zeroValue390
 t77:=Tryz.underlying391
 a77:=Tryz.isAgg391
 z77:=Tryz.sizeOf391
 v77:=Tryz.zeroValue391 }
def Tryz.cmpInt_ren : Go.Shelf.Ren:=⟨fun | 5=>143 | 7=>198 | n=>n,fun | 22=>3 | 3=>3 | 4=>4 | n=>n,fun | n=>n⟩
theorem Tryz.cmpInt : Go.Proofs.SlLaysC2.n5 Tryz.prog Tryz.cmpInt_ren:={
 mixed:=by kernel_rfl
 f5:=⟨Tryz.f143.name,by decide,Tryz.func143.trans (congrArg some (by kernel_rfl))⟩
 f7:=⟨Tryz.f198.name,by decide,Tryz.func198.trans (congrArg some (by kernel_rfl))⟩
 t3:=Tryz.underlying3
 a3:=Tryz.isAgg3
 z3:=Tryz.sizeOf3
 v3:=Tryz.zeroValue3
 t4:=Tryz.underlying4
 a4:=Tryz.isAgg4
 z4:=Tryz.sizeOf4
 v4:=Tryz.zeroValue4
 t22:=Tryz.underlying3
 a22:=Tryz.isAgg3
 z22:=Tryz.sizeOf3
 v22:=Tryz.zeroValue3 }
end Go.Proofs
namespace Go.Sx
open Go.RowKit Go.Shelf Go.Sort Go.Proofs
variable {P : Program} {ρ : Ren} {α : Type} [Inhabited α]
theorem zHD {enc:α→List Value} {k:Nat} (hk:∀ x,(enc x).length=k) (l:List α):(Sort.flatK enc k l.toArray).toList=l.flatMap enc:=by
 apply List.ext_getElem?
 intro j
 by_cases hj:j<l.length*k
 · have k0 : 0 < k := by
     rcases Nat.eq_zero_or_pos k with h | h
     · subst h;simp at hj
     · exact h
   have hd:j/k<l.length:=Nat.div_lt_of_lt_mul (by rwa [Nat.mul_comm] at hj)
   have hm:j%k<k:=Nat.mod_lt _ k0
   have e:j=j/k*k+j%k:=by rw [Nat.mul_comm];exact (Nat.div_add_mod j k).symm
   have h1:=zBt hk l (j/k) (j%k) hd hm
   rw [← e] at h1
   rw [h1]
   have h2:j<(Sort.flatK enc k l.toArray).size:=by rw [size_flatK];simpa using hj
   rw [Array.getElem?_toList,Array.getElem?_eq_getElem h2]
   have h3:=get_flatK enc k l.toArray j (by simpa using hj)
   rw [getElem!_pos _ j h2] at h3
   rw [h3]
   have h4:l.toArray[j/k]! = l.getD (j/k) default:=by
     rw [getElem!_pos _ _ (by simpa using hd),List.getD_eq_getElem?_getD,List.getElem?_eq_getElem hd]
     simp
   rw [h4,List.getElem?_eq_getElem (by rw [hk];exact hm),getElem!_pos _ _ (by rw [hk];exact hm)]
 · rw [List.getElem?_eq_none (by simp;omega),List.getElem?_eq_none (by rw [zAN hk];omega)]
theorem zS0 (L : SlLaysF0.n6 P ρ) (k : Nat) (aE : ∀ w, (isAgg (ρ.t 24)).run P w = .ok true w) (zE : ∀ w, (Go.sizeOf (ρ.t 24)).run P w = .ok k w) (enc : α → List Value) (hk : ∀ x, (enc x).length = k) (h1 : ∀ x, ∀ v ∈ enc x, v.oneCell' = true) (cf : α → α → Int) (hO : SWO (ltOf cf)) (g : Nat)
   (eg:∀ args w,(callFunc g args).run P w = .ok (.enter g args) w)
   (hcmp:∀ (W:World) (x y:α),Calls P g #[.agg (enc x).toArray,.agg (enc y).toArray] W λe w'=>e = .returned (.int .i64 (cf x y))∧∃ q os',w'=grow (W.drewN q) os')
   {w:World} {v:Value} {e m:Nat} {l:List α} (hr:(row v e k m (l.flatMap enc)).p w) (hl:l.length=m) (hm:m≤1000000) :
   Calls P (ρ.f 6) #[v,.func (.func g) #[] #[]] w (Ret w (zN [row v e k m (l.flatMap enc)]) λu N=>u = .tuple #[]∧∃ l':List α,l'.Perm l∧l'.Pairwise (λx y=>ltOf cf y x=false)∧N=[row v e k m (l'.flatMap enc)]):=by
 have hr0:=hr
 obtain ⟨hlen,hr⟩:=hr
 rcases hr with ⟨rfl,rfl⟩ | ⟨g',cap,cur,rfl,_,hb,hmc,hcl,hcs,hcur⟩
 · obtain rfl:l=[]:=List.length_eq_zero_iff.1 hl
   refine (AnyF.slices_SortFunc_none L none 0 _ w).mono ?_
   rintro e' w' ⟨rfl,rfl⟩
   exact ⟨_,_,rfl,⟨rfl,[],List.Perm.refl _,List.Pairwise.nil,rfl⟩,zAq hr0 (by simp [row,Value.ownBlock])⟩
 · have hsz:l.toArray.size=m:=by simpa using hl
   have hlt:g'<w.heap.size:=(Array.getElem?_eq_some_iff.1 hb).1
   have hft:=zHD hk l
   have hH:HoldsK enc k w g' 0 l.toArray:=by
     intro j hj
     rw [size_flatK,hsz] at hj
     have hj2:j<cur.toList.length:=by
       have:=Nat.mul_le_mul_right k hmc
       simp;omega
     refine ⟨?_,by simp [World.frozen?,hb]⟩
     have h2:(Sort.flatK enc k l.toArray)[j]? = cur[j]?:=by
       rw [← Array.getElem?_toList,hft,← hcur,List.getElem?_take,if_pos hj,Array.getElem?_toList]
     have h3:j<(Sort.flatK enc k l.toArray).size:=by rw [size_flatK,hsz];exact hj
     rw [getElem!_pos _ j h3]
     rw [Array.getElem?_eq_getElem h3] at h2
     simp [World.cell?,hb,← h2]
   have hcon:=AnyQ.slices_SortFunc L k aE zE enc hk h1 cf hO g #[] g' 0 cap l.toArray w eg (λ_ _ _ _ x y=>by simpa using hcmp _ x y) hH hlt (by rw [hsz];omega)
   rw [hsz] at hcon
   refine hcon.mono ?_
   rintro e' w' ⟨rfl,d',n,os,hp,hs,rfl⟩
   obtain ⟨hd1,_,hd2⟩:=hp
   have hd:d'.size=m:=by rw [hd1,hsz]
   have hex:∀ d:Array α,d.size=m→d.extract 0 m=d:=λd h=>by rw [← h];exact Array.extract_size
   rw [hex _ hd,hex _ hsz] at hd2
   have hd3:d'=d'.toList.toArray:=by simp
   have hfd:=zHD hk d'.toList
   rw [← hd3] at hfd
   have hnew:(sortWorldK enc k w g' 0 n d' os).heap[g']? = some (.cells (putCells id 0 (Sort.flatK enc k d') cur) e (0,0)):=by
     unfold sortWorldK putRowK putRow mapBlock grow
     simp only [ahead]
     rw [Array.getElem?_append_left (by simpa using hlt),Array.getElem?_modify,if_pos rfl]
     show (w.heap[g']?).map _=_
     rw [hb]
     rfl
   refine ⟨_,_,rfl,⟨rfl,d'.toList,by simpa using hd2,?_,rfl⟩,⟨rfl,rfl,rfl,by simp [sortWorldK,putRowK,putRow,mapBlock,grow,ahead],λj hj hS=>?_⟩,?_,?_,?_⟩
   · refine List.pairwise_iff_getElem.2 λi j hi hj hij=>?_
     have:=hs i j (Nat.zero_le _) hij (by simpa [hd] using hj)
     rwa [getElem!_pos _ i (by simpa using hi),getElem!_pos _ j (by simpa using hj)] at this
   · have hne:j≠g':=by simpa [zN,row,Value.ownBlock] using hS
     unfold sortWorldK putRowK putRow mapBlock grow
     simp only [ahead]
     rw [Array.getElem?_append_left (by simpa using hj),Array.getElem?_modify,if_neg (Ne.symm hne)]
     rfl
   · intro h hh
     simp only [List.mem_singleton] at hh
     subst hh
     refine ⟨by rw [zAN hk,Array.length_toList,hd],.inr ⟨g',cap,_,rfl,Nat.zero_le _,hnew,hmc,hcl,by simp [putCells,hcs],?_⟩⟩
     apply List.ext_getElem?
     intro j
     rw [List.getElem?_take,← hfd]
     by_cases hj:j<m*k
     · rw [if_pos hj]
       have h3:j<(Sort.flatK enc k d').size:=by rw [size_flatK,hd];exact hj
       have h5:j<cur.size:=by
         have:=Nat.mul_le_mul_right k hmc
         omega
       rw [Array.getElem?_toList,Array.getElem?_toList,Array.getElem?_eq_getElem h3,putCells,Array.getElem?_mapIdx,Array.getElem?_eq_getElem h5]
       simp only [Option.map_some,Nat.zero_le,Nat.zero_add,true_and,Nat.sub_zero,h3,if_true,id]
       rw [getElem!_pos _ j h3]
     · rw [if_neg hj,List.getElem?_eq_none (by simp [hd];omega)]
   · simp [zN,row,Value.ownBlock]
   · intro j hj
     exact .inl (by simpa [zN,row,Value.ownBlock] using hj)
omit [Inhabited α] in
theorem zLc {f:α→Int} (x y:α):ltOf (λx y:α=>Lib.compareInt (f x) (f y)) x y=decide (f x<f y):=by
 unfold ltOf Lib.compareInt
 by_cases h1:f x<f y
 · simp [h1]
 · by_cases h2:f y<f x<;>simp [h1,h2]
omit [Inhabited α] in
theorem zRE (f:α→Int):SWO (ltOf λx y:α=>Lib.compareInt (f x) (f y)) where
 irrefl x:=by rw [zLc];simp
 trans x y z h1 h2:=by rw [zLc] at *;simp at *;omega
 ntrans x y z h1 h2:=by rw [zLc] at *;simp at *;omega
end Go.Sx
namespace Go.Proofs.YtljpfgacpofkpaaGreat
open Tryz
open Go Go.Sx Go.RowKit Go.Lib Go.Sort
set_option maxRecDepth 4000
set_option maxHeartbeats 1000000
theorem zPb (x y:zS) (W:World):Calls Tryz.prog 192 #[.agg #[zI x.id,zI x.p0,zI x.p1,zI x.p2,zI x.v0,zI x.v1,zI x.v2,.int .u16 (((x.a).toNat:Nat):Int),bI x.g],.agg #[zI y.id,zI y.p0,zI y.p1,zI y.p2,zI y.v0,zI y.v1,zI y.v2,.int .u16 (((y.a).toNat:Nat):Int),bI y.g]] W λe w'=>e = .returned (zI (Lib.compareInt x.id y.id))∧∃ q os',w'=Sort.grow (W.drewN q) os':=by
 have hcon:=λW'=>AnyG.cmp_Compare_int Tryz.cmpInt x.id y.id W'
 change ∀ W',Calls Tryz.prog 143 _ _ _ at hcon
 generalize Lib.compareInt x.id y.id=r at hcon ⊢
 go_enter func192,Tryz.ntmps192
 go_wp2_with (go_at_call 143;refine (hcon _).mono ?_;rintro e w' ⟨rfl,rfl⟩)
 go_ret
 exact ⟨rfl,0,_,by rw [alloc_eq_grow,alloc_eq_grow,grow_grow];rfl⟩
theorem zOs (x y:zY) (W:World):Calls Tryz.prog 142 #[.agg #[zI x.k,zI x.id,zI x.p0,zI x.p1,zI x.p2,zI x.v0,zI x.v1,zI x.v2,.int .u16 (((x.a).toNat:Nat):Int)],.agg #[zI y.k,zI y.id,zI y.p0,zI y.p1,zI y.p2,zI y.v0,zI y.v1,zI y.v2,.int .u16 (((y.a).toNat:Nat):Int)]] W λe w'=>e = .returned (zI (Lib.compareInt x.id y.id))∧∃ q os',w'=Sort.grow (W.drewN q) os':=by
 have hcon:=λW'=>AnyG.cmp_Compare_int Tryz.cmpInt x.id y.id W'
 change ∀ W',Calls Tryz.prog 143 _ _ _ at hcon
 generalize Lib.compareInt x.id y.id=r at hcon ⊢
 go_enter func142,Tryz.ntmps142
 go_wp2_with (go_at_call 143;refine (hcon _).mono ?_;rintro e w' ⟨rfl,rfl⟩)
 go_ret
 exact ⟨rfl,0,_,by rw [alloc_eq_grow,alloc_eq_grow,grow_grow];rfl⟩
theorem zVx {w:World} {v:Value} {m:Nat} {l:List zS} (hr:(row v 48 9 m (l.flatMap zBI)).p w) (hl:l.length=m) (hm:m≤1000000):Calls Tryz.prog 236 #[v,.func (.func 192) #[] #[]] w (Ret w (zN [row v 48 9 m (l.flatMap zBI)]) λu N=>u = .tuple #[]∧∃ l':List zS,(l'.Perm l∧l'.Pairwise (λx y=>x.id≤y.id))∧N=[row v 48 9 m (l'.flatMap zBI)]):=by
 have h:=zS0 (α:=zS) Tryz.sortE 9 isAgg48 sizeOf48 zBI zBa (λx u hu=>by simp only [zBI,List.mem_cons,List.not_mem_nil,or_false] at hu;rcases hu with rfl | rfl | rfl | rfl | rfl | rfl | rfl | rfl | rfl<;>rfl) (λx y:zS=>Lib.compareInt x.id y.id) (zRE (λx:zS=>x.id)) 192 call192 (λW x y=>zPb x y W) hr hl hm
 change Calls Tryz.prog 236 _ _ _ at h
 refine h.mono ?_
 rintro e w' ⟨u,N,rfl,⟨rfl,l',hp,hs,rfl⟩,hM⟩
 refine ⟨_,_,rfl,⟨rfl,l',⟨hp,hs.imp λh=>?_⟩,rfl⟩,hM⟩
 rw [zLc] at h
 simp only [decide_eq_false_iff_not] at h
 omega
theorem zVu {w:World} {v:Value} {m:Nat} {l:List zY} (hr:(row v 161 9 m (l.flatMap zDv)).p w) (hl:l.length=m) (hm:m≤1000000):Calls Tryz.prog 141 #[v,.func (.func 142) #[] #[]] w (Ret w (zN [row v 161 9 m (l.flatMap zDv)]) λu N=>u = .tuple #[]∧∃ l':List zY,(l'.Perm l∧l'.Pairwise (λx y=>x.id≤y.id))∧N=[row v 161 9 m (l'.flatMap zDv)]):=by
 have h:=zS0 (α:=zY) Tryz.sortR 9 isAgg161 sizeOf161 zDv zGI (λx u hu=>by simp only [zDv,List.mem_cons,List.not_mem_nil,or_false] at hu;rcases hu with rfl | rfl | rfl | rfl | rfl | rfl | rfl | rfl | rfl<;>rfl) (λx y:zY=>Lib.compareInt x.id y.id) (zRE (λx:zY=>x.id)) 142 call142 (λW x y=>zOs x y W) hr hl hm
 change Calls Tryz.prog 141 _ _ _ at h
 refine h.mono ?_
 rintro e w' ⟨u,N,rfl,⟨rfl,l',hp,hs,rfl⟩,hM⟩
 refine ⟨_,_,rfl,⟨rfl,l',⟨hp,hs.imp λh=>?_⟩,rfl⟩,hM⟩
 rw [zLc] at h
 simp only [decide_eq_false_iff_not] at h
 omega
theorem zZK (g bx L:Nat) (l:List zS) (R:List zS→HA→Prop) (X:HA) (w0:World) (hg:(mpr g (ekv l)).p w0) (hb:(blk bx [.map (some g)] 180).p w0) (hX:X.p w0) (hR:R [] X) (hnd:(zN [mpr g (ekv l),blk bx [.map (some g)] 180,X]).Nodup) (hy:zKc Tryz.prog L l R):Calls Tryz.prog 237 #[.func (.yield L) #[] #[],pt bx 0] w0 (Ret w0 (zN [mpr g (ekv l),blk bx [.map (some g)] 180,X]) λu N=>∃ done X',done.Perm l∧R done X'∧N=[mpr g (ekv l),blk bx [.map (some g)] 180,X']):=by
 refine enter (F0:=[(0,.func (.yield L) #[] #[]),(1,pt bx 0)]) func237 rfl rfl rfl (.c (.c .n)) (zSH hg hb hX hnd) λa w hs=>?_
 refine wp_seq_k λK1 hK2=>?_
 refine wp_region_lit ?_
 refine zKp hs rfl (.s .z) .z isAgg180 rfl ?_;clear hs w a;intro a w hs
 refine zKy hs rfl .z underlying180 rfl ?_;clear hs w a;intro it3 a w hs
 refine wpList_nil ?_
 refine zAy (hK2 _ _ ?_)
 refine wp_block ?_
 refine zJw (λmm_ a w=>∃ done:List zS,∃ Y:HA,mm_=l.length-done.length∧St 15 [(0,.func (.yield L) #[] #[]),(1,pt bx 0),(6,pt it3 0)] w0 (zN [mpr g (ekv l),blk bx [.map (some g)] 180,X]) [mit g it3 (ekv l) (ekv done),blk bx [.map (some g)] 180,Y] a w∧R done Y) ⟨[],X,rfl,hs.sub (.c rfl (.c rfl (.c rfl .n))),hR⟩ ?_
 clear hs w a;rintro mm_ a w ⟨done,Y,rfl,hs,hI1_0⟩
 refine wp_seq_k λK4 hK5=>?_
 refine wp_region_lit ?_
 refine zOA hs rfl .z rfl (λhp6=>?_) (λx7 hm8 hl9=>?_)
 ·
  clear hs w a;intro a w hs
  refine zHI hs rfl .z rfl ?_;clear hs w a;intro a w hs
  refine wpList_nil ?_
  refine zAy (hK5 _ _ ?_)
  refine wp_seq_k λK10 hK11=>?_
  refine wp_cond_false (hs.ev rfl) ?_
  refine wp_exit ?_
  refine zb1 ?_
  refine zb1 ?_
  refine zP6 ?_
  replace hs:=hs.mback .z
  exact zIo hs rfl ⟨_,_,hp6,hI1_0,rfl⟩
 clear hs w a;intro a w hs
 refine zHI hs rfl .z rfl ?_;clear hs w a;intro a w hs
 refine wpList_nil ?_
 refine zAy (hK5 _ _ ?_)
 refine wp_seq_k λK12 hK13=>?_
 refine wp_cond_true (hs.ev rfl) ?_
 refine wp_skip ?_
 refine zAy (hK13 _ _ ?_)
 refine wp_block ?_
 refine wp_seq_k λK14 hK15=>?_
 refine wp_region_lit ?_
 refine zLp hs rfl .z rfl ?_;clear hs w a;intro a w hs
 refine zHI hs rfl (.s .z) rfl ?_;clear hs w a;intro a w hs
 refine zBm (cs:=[zI 0,zI 0,zI 0,zI 0,zI 0,zI 0,zI 0,.int .u16 (0),.int .u8 (0)]) hs zeroValue48 rfl rfl ?_;clear hs w a;intro g16 a w hs
 refine zAU hs rfl rfl .z (.z (.c (.c (.c (.c (.c (.c (.c (.c (.c .n)))))))))) (zF rfl (zF rfl (zF rfl (zF rfl (zF rfl (zF rfl (zF rfl (zF rfl (zF rfl zAX))))))))) sizeOf48 rfl ?_;clear hs w a;intro a w hs
 refine wpList_nil ?_
 refine zAy (hK15 _ _ ?_)
 refine wp_seq_k λK17 hK18=>?_
 refine (wpIn_wide (n:=1)).1 (wpIn_region_lit (zGu (l1:=[_,_]) (r:=none) (λ_ _ h=>by obtain ⟨_,_,h,_⟩:=h;cases h) _ _ (zA3 rfl) ?_))
 refine zGN hs rfl rfl ?_;clear hs w a;intro a w hs
 refine zQa hs rfl .z (.z (.c (.c (.c (.c (.c (.c (.c (.c (.c .n)))))))))) isAgg48 sizeOf48 rfl ?_;clear hs w a;intro a w hs
 refine wpList_nil ?_
 show wpListIn _ _ _ _ _ _ _ _
 refine zUg (X:=[Y]) hs rfl (.c rfl .n) (.c (.s (.s (.s .z))) .n) (hy.at hI1_0 hm8 hl9) rfl ?_
 clear hs w a;rintro _ a w ⟨Y2,rfl,hR2⟩ hs;simp only [List.cons_append,List.nil_append] at hs
 refine zSG (λ_ _ h=>by obtain ⟨_,_,h,_⟩:=h;cases h) (zA3 rfl) ?_
 refine zWM hs rfl rfl ?_;clear hs w a;intro a w hs
 replace hs:=hs.recell (v':=.bool (false)) (Option.some.inj rfl)
 refine wpList_nil ?_
 refine zAy (hK18 _ _ ?_)
 refine wp_cond_false (hs.ev rfl) ?_
 refine wp_skip ?_
 refine zbq ?_
 refine zAy ?_
 replace hs:=hs.drop (.c (.s .z) .n)
 replace hs:=hs.reorder (.c (.s .z) (.c (.s .z) (.c .z .n)))
 have hal_:(done++[x7]).length=done.length+1:=by simp
 refine ⟨_,?_,_,_,rfl,hs.sub (.c rfl (.c rfl (.c rfl .n))),hR2⟩
 omega
theorem zSa (g bx:Nat) (l:List zS) (w0:World) (hg:(mpr g (ekv l)).p w0) (hb:(blk bx [.map (some g)] 180).p w0) (hnd:(zN [mpr g (ekv l),blk bx [.map (some g)] 180]).Nodup) (hl:l.length≤100000):Calls Tryz.prog 278 #[.slice none 0 0,.func (.func 237) #[] #[pt bx 0]] w0 (Ret w0 (zN [mpr g (ekv l),blk bx [.map (some g)] 180]) λu N=>∃ l':List zS,l'.Perm l∧N=[row u 48 9 l'.length (l'.flatMap zBI),mpr g (ekv l),blk bx [.map (some g)] 180]):=by
 refine zWW (F0:=[(0,.slice none 0 0),(1,.func (.func 237) #[] #[pt bx 0])]) func278 rfl rfl rfl (.c (.c .n)) (zEM hg hb hnd) λa w hs=>?_
 refine wpIn_seq_k λK1 hK2=>?_
 refine zBn (λ_ _ h=>by obtain ⟨_,_,h,_⟩:=h;cases h) (zA3 rfl) ?_
 refine zJG (cs:=[.slice none 0 0]) hs rfl rfl rfl ?_;clear hs w a;intro g3 a w hs
 refine zEd hs rfl rfl ?_;clear hs w a;intro a w hs
 refine wpList_nil ?_
 refine zAy (hK2 _ _ ?_)
 refine wpIn_seq_k λK4 hK5=>?_
 refine wpIn_seq_k λK6 hK7=>?_
 refine zBn (λ_ _ h=>by obtain ⟨_,_,h,_⟩:=h;cases h) (zA3 rfl) ?_
 refine zGN hs rfl rfl ?_;clear hs w a;intro a w hs
 refine wpList_nil ?_
 refine zAy (hK7 _ _ ?_)
 refine wpIn_block ?_
 replace hs:=hs.addNil 48 9
 refine zL6 hs rfl call237 (λfn D L W rec hrec hm=>?_)
 have hm2:=hm.reorder (X:=[mpr g (ekv l),blk bx [.map (some g)] 180,row (.slice none 0 0) 48 9 ([]:List zS).length (([]:List zS).flatMap zBI),blk g3 [.slice none 0 0] 44,obj L (.loop (rec .ready)),obj D (.deferred (some []))]) (.c (.s (.s (.s (.s .z)))) (.c (.s (.s (.s (.s .z)))) (.c (.s (.s .z)) (.c (.s (.s .z)) (.c .z (.c .z .n))))))
 obtain ⟨hp1,hp2,hp3⟩:=Mem.parts (A:=[mpr g (ekv l),blk bx [.map (some g)] 180]) hm2
 have hy:zKc Tryz.prog L l (λdone X=>∃ v,X=zFy [row v 48 9 done.length (done.flatMap zBI),blk g3 [v] 44,obj L (.loop (rec .ready)),obj D (.deferred (some []))]):=by
  rintro done x X W1 ⟨v,rfl⟩ hX hn hx hlt
  have hX2:=(zWt hX).reorder (X:=[obj L (.loop (rec .ready)),row v 48 9 done.length (done.flatMap zBI),blk g3 [v] 44,obj D (.deferred (some []))]) (.c (.s (.s .z)) (.c .z (.c .z (.c .z .n))))
  refine zJZ (zT0 (post:=λN=>∃ v',N=[row v' 48 9 (done++[x]).length ((done++[x]).flatMap zBI),blk g3 [v'] 44,obj D (.deferred (some []))]) hs hrec rfl rfl hX2 (λa w hs=>?_)) ?_
  ·
   refine zBn (λ_ _ h=>h) (zA3 rfl) ?_
   refine zBm (cs:=[zI 0,zI 0,zI 0,zI 0,zI 0,zI 0,zI 0,.int .u16 (0),.int .u8 (0)]) hs zeroValue48 rfl rfl ?_;clear hs w a;intro g8 a w hs
   refine zAU hs rfl rfl .z (.z (.c (.c (.c (.c (.c (.c (.c (.c (.c .n)))))))))) (zF rfl (zF rfl (zF rfl (zF rfl (zF rfl (zF rfl (zF rfl (zF rfl (zF rfl zAX))))))))) sizeOf48 rfl ?_;clear hs w a;intro a w hs
   refine wpList_nil ?_
   replace hs:=hs.reorder (.c (.s .z) (.c .z (.c .z (.c .z (.c .z .n)))))
   refine ⟨_,_,hs,?_⟩;clear hs;intro w3 hs
   refine wpIn_block (zBn (λ_ _ h=>by cases h.1) (zA3 rfl) ?_)
   refine zKp hs rfl (.s (.s (.s .z))) .z isAgg44 rfl ?_;clear hs w a;intro a w hs
   refine zQa hs rfl (.s .z) (.z (.c (.c (.c (.c (.c (.c (.c (.c (.c .n)))))))))) isAgg48 sizeOf48 rfl ?_;clear hs w a;intro a w hs
   refine zHt (cs:=[zI x.id,zI x.p0,zI x.p1,zI x.p2,zI x.v0,zI x.v1,zI x.v2,.int .u16 (((x.a).toNat:Nat):Int),bI x.g]) hs (.c .n) (.c rfl .n) underlying44 (ie:=Tryz.t48) rfl rfl rfl rfl (by decide) (by decide) rfl (by decide) rfl rfl rfl ?_;clear hs w a;intro g9 a w hs
   refine zBH (size:=9) (bytes:=64) hs rfl rfl (.s (.s (.s .z))) (zAJ (m:=1) (size:=9) (hs.mem.del .z) rfl (by decide)) (by simp [Value.oneCell']) underlying44 (i:=Tryz.t48) rfl rfl rfl rfl rfl (by decide) (by omega) (by simp only [maxLen];omega) rfl ?_;clear hs w a;intro v10 a w hs
   replace hs:=hs.drop (.c (.s .z) .n)
   refine zBh hs rfl rfl (.s (.s (.s .z))) .z (zK (hs.mem.del .z)).isSl.one sizeOf44 ?_;clear hs w a;intro a w hs
   replace hs:=hs.rerow (.s .z) (m':=(done++[x]).length) (xs':=((done++[x]).flatMap zBI)) (by rw [List.length_append];rfl) (by rw [List.flatMap_append];rfl)
   replace hs:=hs.drop (.c (.s (.s (.s .z))) .n)
   replace hs:=hs.reorder (.c (.s (.s .z)) (.c .z (.c .z (.c .z .n))))
   refine wpList_nil ?_
   exact ⟨rfl,_,⟨v10,rfl⟩,hs.mem⟩
  rintro e W' ⟨rfl,N,⟨v',rfl⟩,hM⟩
  exact ⟨rfl,_,⟨_,rfl,v',rfl⟩,(hM.reorder (.c (.s .z) (.c (.s .z) (.c .z (.c .z .n))))).sep⟩
 refine (zZK g bx L l (λdone X=>∃ v,X=zFy [row v 48 9 done.length (done.flatMap zBI),blk g3 [v] 44,obj L (.loop (rec .ready)),obj D (.deferred (some []))]) _ W (hp1 _ (by simp)) (hp1 _ (by simp)) hp2 ⟨_,rfl⟩ hp3 hy).mono ?_
 rintro e W' ⟨u,N,rfl,⟨done,X',hp,⟨v,rfl⟩,rfl⟩,hM⟩
 have hM2:=hm2.frame (X:=[mpr g (ekv l),blk bx [.map (some g)] 180]++[row (.slice none 0 0) 48 9 ([]:List zS).length (([]:List zS).flatMap zBI),blk g3 [.slice none 0 0] 44,obj L (.loop (rec .ready)),obj D (.deferred (some []))]) (.c .z (.c .z (.c .z (.c .z (.c .z (.c .z .n)))))) (Mem.unsep2 (A:=[mpr g (ekv l),blk bx [.map (some g)] 180]) (A':=[mpr g (ekv l),blk bx [.map (some g)] 180]) hM)
 refine ⟨⟨_,rfl⟩,[row v 48 9 done.length (done.flatMap zBI),mpr g (ekv l),blk bx [.map (some g)] 180,blk g3 [v] 44],hM2.reorder (.c (.s (.s (.s (.s .z)))) (.c (.s (.s (.s (.s .z)))) (.c (.s (.s .z)) (.c .z (.c .z (.c .z .n)))))),λW2 hM3=>?_⟩
 refine zbq ?_
 refine zAy (hK5 _ _ ?_)
 refine wpIn_seq_k λK9 hK9=>?_
 refine wpIn_region_lit ?_
 have hB:W2.heap[g3]? = some (.cells [v].toArray 44 (0,0)):=hM3.all (blk g3 [v] 44) (by simp)
 have ha2:=hs.agr 2 _ rfl
 have hz:=hs.size
 refine zJE (v:=v) (w':=W2) rfl (by intro c h;cases h) (zYQ (g:=g3) (i:=0) (by simp [Act.eval,Array.getD_eq_getD_getElem?,ha2]) hB .z isAgg44) ?_
 refine zJE (v:=v) (w':=W2) rfl (by intro c h;cases h) (by simp [execOp,Act.eval,Act.put,Array.getD_eq_getD_getElem?,hz]) ?_
 refine zAy (hK9 _ _ ?_)
 refine wpIn_ret ?_
 rw [hs.dfr]
 refine zay (v:=v) rfl (by simp [Act.put,Array.getD_eq_getD_getElem?,hz]) (hM3.all (obj D (.deferred (some []))) (by simp)) ?_
 have hM4:=(hM3.frame (X:=[obj D (.deferred (some []))]) (.c (.s .z) .n) (zDa (o':=.deferred none) (hM3.all (obj D (.deferred (some []))) (by simp)))).drop (X:=[obj D (.deferred none),obj L (.loop (rec .exhausted)),blk g3 [v] 44]) (.c .z (.c .z (.c (.s (.s (.s .z))) .n)))
 exact ⟨_,_,rfl,⟨done,hp,rfl⟩,hM4⟩
open Go Go.Sx Go.RowKit
theorem zLn (x:Int) (w0:World):Calls Tryz.prog 199 #[.int .i64 x] w0 (zAh w0 (.bool (decide (-2305843009213693952≤x∧x≤2305843009213693952)))):=by
 refine zG (F0:=[(0,zI x)]) func199 rfl rfl rfl (.c .n) (Mem.nil _) ?_
 refine go 4 [] [5,0] .n ?_
 intro a w hs;refine zX (b:=decide ((-2305843009213693952)≤x)) (λc_1=>?_) (λc_1=>?_)
 ·
  rw [c_1] at hs
  replace c_1:=of_decide_eq_true c_1
  revert a w hs
  refine go 4 [] [2] .n ?_
  intro a w hs;exact fin hs rfl rfl ⟨congrArg Value.bool (by first | (rw [decide_eq_decide];omega) | (symm;rw [decide_eq_false_iff_not];omega)),rfl⟩
 rw [c_1] at hs
 replace c_1:=of_decide_eq_false c_1
 revert a w hs
 refine go 4 [] [2] .n ?_
 intro a w hs;exact fin hs rfl rfl ⟨congrArg Value.bool (by first | (rw [decide_eq_decide];omega) | (symm;rw [decide_eq_false_iff_not];omega)),rfl⟩
theorem zGs (g:Nat) (v:Value) (m:Nat) (bs:List zQ) (R:Rs) (w0:World) (hb:Rd w0 [] v 1 m (zD bs)) (hg:(blk g [v,nI R.p,nI R.e] 336).p w0) (hle:R.p≤bs.length):Calls Tryz.prog 233 #[pt g 0] w0 (zAh w0 (nI R.e)):=by
 have hbl:bs.length=m:=by have:=hb.len;simpa [zD] using this
 have hbe:m≤maxLen:=hb.le
 simp only [maxLen] at hbe
 refine zG (F0:=[(0,pt g 0)]) func233 rfl rfl rfl (.c .n) (Mem.nil _) ?_
 refine go 7 [] [7] .n ?_
 intro a w hs;refine zAC hs rfl (hs.mem.keep hg (by simp [zN,blk])) (.s (.s .z)) isAgg34 rfl ?_
 refine goL 1 [] [2] .n ?_
 intro a w hs;exact fin hs rfl rfl ⟨rfl,rfl⟩
theorem zKf (g:Nat) (v:Value) (m:Nat) (bs:List zQ) (R:Rs) (w0:World) (hb:Rd w0 [] v 1 m (zD bs)) (hg:(blk g [v,nI R.p,nI R.e] 336).p w0) (hle:R.p≤bs.length):Calls Tryz.prog 234 #[pt g 0] w0 (zAh w0 (nI (bs.length-R.p))):=by
 have hbl:bs.length=m:=by have:=hb.len;simpa [zD] using this
 have hbe:m≤maxLen:=hb.le
 simp only [maxLen] at hbe
 refine zG (F0:=[(0,pt g 0)]) func234 rfl rfl rfl (.c .n) (Mem.nil _) ?_
 refine go 4 [] [0] .n ?_
 intro a w hs
 refine zO [.p [] [],.p [0] [],.p [1] [],.v [2] v,.v [3] (zI (m:Int)),.p [] [],.p [5] [],.p [6] [],.v [7] (nI R.p),.p [8,4] [],.p [9] []] [10] hs .n .n (by kernel_rfl) ⟨λ_ _ _ _ hm hs K=>zAC hs rfl (hm.keep hg (by simp [zN,blk])) .z isAgg28 rfl (vk K),λ_ _ _ _ hm hs K=>zAG hs rfl (hm.rd0 hb).isSl underlying28 rfl (vk K),λ_ _ _ _ hm hs K=>zAC hs rfl (hm.keep hg (by simp [zN,blk])) (.s .z) isAgg3 rfl (vk K),(by omega),⟨rfl,by kernel_rfl,λ_=>rfl,rfl,rfl,trivial⟩,λ_=>rfl,?_⟩
 refine goE 0 [] [2] .n ?_
 intro a w hs;exact fin hs rfl rfl ⟨congrArg (Value.int .i64) (by omega),rfl⟩
theorem zVa (g:Nat) (v:Value) (m:Nat) (bs:List zQ) (R:Rs) (w0:World) (hb:Rd w0 [] v 1 m (zD bs)) (hg:(blk g [v,nI R.p,nI R.e] 336).p w0) (hle:R.p≤bs.length):Calls Tryz.prog 184 #[pt g 0] w0 (zAh w0 (nI (zIz bs R))):=by
 have hbl:bs.length=m:=by have:=hb.len;simpa [zD] using this
 have hbe:m≤maxLen:=hb.le
 simp only [maxLen] at hbe
 refine zG (F0:=[(0,pt g 0)]) func184 rfl rfl rfl (.c .n) (Mem.nil _) ?_
 refine go 2 [] [4,0] .n ?_
 intro a w hs;refine zB (v:=nI R.e) hs (.c rfl .n) call233 (zGs g _ _ bs R _ (hs.rd0 hb) (hs.mem.keep hg (by simp [zN,blk])) (by omega)) rfl ?_
 refine goL 4 [] [8,3,0] .n ?_
 intro a w hs;refine zX (b:=!((((R.e:Nat):Int):Int)==0)) (λc_1=>?_) (λc_1=>?_)
 ·
  rw [c_1] at hs
  replace c_1:=zFW c_1
  replace c_1:=zAW c_1
  revert a w hs
  refine go 7 [] [2] .n ?_
  intro a w hs;exact fin hs rfl rfl ⟨congrArg (Value.int .i64) (by unfold zIz;first | rw [if_pos (by omega)] | rw [if_neg (by omega)];rfl),rfl⟩
 rw [c_1] at hs
 replace c_1:=zFX c_1
 replace c_1:=eq_of_beq c_1
 revert a w hs
 refine go 1 [] [9,8,3] .n ?_
 intro a w hs;refine zC hs rfl rfl rfl ?_
 refine zB (v:=nI (bs.length-R.p)) hs (.c rfl .n) call234 (zKf g _ _ bs R _ (hs.rd0 hb) (hs.mem.keep hg (by simp [zN,blk])) (by omega)) rfl ?_
 refine goL 2 [] [12,3] .n ?_
 refine ifG rfl (λc_2=>?_) (λc_2=>?_)
 ·
  refine go 2 [] [2] .n ?_
  intro a w hs;exact fin hs rfl rfl ⟨congrArg (Value.int .i64) (by unfold zIz;first | rw [if_pos (by omega)] | rw [if_neg (by omega)];rfl),rfl⟩
 refine go 1 [] [2] .n ?_
 intro a w hs;exact fin hs rfl rfl ⟨congrArg (Value.int .i64) (by unfold zIz;first | rw [if_pos (by omega)] | rw [if_neg (by omega)];rfl),rfl⟩
theorem zTv (v:Value) (m:Nat) (bs:List zQ) (w0:World) (hb:Rd w0 [] v 1 m (zD bs)) (h0:0<m):Calls Tryz.prog 294 #[v] w0 (zAh w0 (.tuple #[bI (bs.getD 0 0),.int .i64 1,.int .i64 0])):=by
 have hbl:bs.length=m:=by have:=hb.len;simpa [zD] using this
 have hbe:m≤maxLen:=hb.le
 simp only [maxLen] at hbe
 refine zG (F0:=[(0,v)]) func294 rfl rfl rfl (.c .n) (Mem.nil _) ?_
 refine go 4 [] [5] .n ?_
 intro a w hs;refine zA9 (j:=0) hs rfl rfl (hs.rd0 hb) (by decide) (by omega) underlying28 sizeOf5 rfl ?_
 intro a w hs;refine zBf hs rfl (hs.rd0 hb) (zB9 bs (by first | omega | (simp;omega))) isAgg5 rfl ?_
 refine goL 3 [] [4,3,2] .n ?_
 intro a w hs;exact zFO hs rfl rfl rfl rfl ⟨rfl,rfl⟩
theorem zU4 (v:Value) (m:Nat) (bs:List zQ) (gl:Nat) (X:BitVec 64) (w0:World) (hb:Rd w0 [] v 1 m (zD bs)) {tl:TypeId} (hl:(blk gl [.int .u64 (X.toNat:Int)] tl).p w0):Calls Tryz.prog 275 #[v,pt gl 0] w0 (zAh w0 (.tuple #[.int .u64 (((zCW bs).1.toNat:Nat):Int),nI ((zCW bs).2.1),nI (zIt bs X)])):=by
 have hbl:bs.length=m:=by have:=hb.len;simpa [zD] using this
 have hbe:m≤maxLen:=hb.le
 simp only [maxLen] at hbe
 refine zG (F0:=[(0,v),(1,pt gl 0)]) func275 rfl rfl rfl (.c (.c .n)) (Mem.nil _) ?_
 refine go 4 [] [10,1] .n ?_
 intro a w hs;refine zB (v:=.tuple #[qI ((zCW bs).1),nI ((zCW bs).2.1),nI ((zCW bs).2.2)]) hs (.c rfl .n) call276 (zaB _ _ bs _ (hs.rd0 hb)) rfl ?_
 refine goL 10 [] [17,8,7,6,1] .n ?_
 intro a w hs;refine zX (b:=((((zCW bs).2.2:Nat):Int):Int)==0) (λc_1=>?_) (λc_1=>?_)
 ·
  rw [c_1] at hs
  replace c_1:=eq_of_beq c_1
  revert a w hs
  refine go 1 [] [18,17,8,7,6,1] .n ?_
  intro a w hs;refine zC hs rfl rfl rfl ?_
  refine zAC hs rfl (hs.mem.keep hl (by simp [zN,blk])) .z isAgg252 rfl ?_
  refine goL 2 [] [21,8,7,6] .n ?_
  refine ifG rfl (λc_2=>?_) (λc_2=>?_)
  ·
   refine go 7 [] [5,4,3] .n ?_
   intro a w hs;exact zFO hs rfl rfl rfl rfl ⟨by unfold zIt;first | (rw [if_pos (by omega)];rfl) | (rw [if_neg (by omega)]),rfl⟩
  refine go 6 [] [5,4,3] .n ?_
  intro a w hs;exact zFO hs rfl rfl rfl rfl ⟨by unfold zIt;first | (rw [if_pos (by omega)];rfl) | (rw [if_neg (by omega)]),rfl⟩
 rw [c_1] at hs
 replace c_1:=zAW c_1
 revert a w hs
 refine go 11 [] [5,4,3] .n ?_
 intro a w hs;exact zFO hs rfl rfl rfl rfl ⟨by unfold zIt;first | (rw [if_pos (by omega)];rfl) | (rw [if_neg (by omega)]),rfl⟩
theorem zTe (g:Nat) (v:Value) (m:Nat) (bs:List zQ) (R:Rs) (w0:World) (hb:Rd w0 [g] v 1 m (zD bs)) (hg:(blk g [v,nI R.p,nI R.e] 336).p w0) (hle:R.p≤bs.length):Calls Tryz.prog 293 #[pt g 0,.func (.func 294) #[] #[]] w0 (Ret w0 [g] λu N=>u = .int .u8 (((zH bs R).1.toNat:Nat):Int)∧N=[blk g [v,nI (((zH bs R).2).p),nI (((zH bs R).2).e)] 336]):=by
 have hbl:bs.length=m:=by have:=hb.len;simpa [zD] using this
 have hbe:m≤maxLen:=hb.le
 simp only [maxLen] at hbe
 refine zG (F0:=[(0,pt g 0),(1,.func (.func 294) #[] #[])]) func293 rfl rfl rfl (.c (.c .n)) (zAq hg) ?_
 refine go 3 [] [9,5,0,1] .n ?_
 intro a w hs;refine zB (v:=nI R.e) hs (.c rfl .n) call233 (zGs g _ _ bs R _ (hs.rd0 hb) (hs.mem.del .z) (by omega)) rfl ?_
 refine goL 1 [] [11,5,0,1] .n ?_
 refine ifG rfl (λc_1=>?_) (λc_1=>?_)
 ·
  refine go 2 [] [4] .n ?_
  intro a w hs;exact fin hs rfl rfl (by first | (rw [zD4 (by omega)];exact ⟨rfl,rfl⟩) | (rw [zDW (by omega) (by omega)];exact ⟨rfl,rfl⟩) | (have he0:R.e=0:=(by omega);rw [zDy he0 (by omega)];simp [he0,nI]))
 refine go 1 [] [13,5,0,1] .n ?_
 intro a w hs;refine zB (v:=nI (bs.length-R.p)) hs (.c rfl .n) call234 (zKf g _ _ bs R _ (hs.rd0 hb) (hs.mem.del .z) (by omega)) rfl ?_
 refine goL 1 [] [15,5,0,1] .n ?_
 refine ifG rfl (λc_2=>?_) (λc_2=>?_)
 ·
  refine go 6 [0] [4] (.c .z .n) ⟨rfl,?_⟩
  intro a w hs;exact fin hs rfl rfl (by first | (rw [zD4 (by omega)];exact ⟨rfl,rfl⟩) | (rw [zDW (by omega) (by omega)];exact ⟨rfl,rfl⟩) | (have he0:R.e=0:=(by omega);rw [zDy he0 (by omega)];simp [he0,nI]))
 refine go 0 [] [5,0,1] .n ?_
 intro a w hs
 refine zO [.p [] [],.p [] [],.p [1] [],.p [2] [],.p [3] [0],.p [] [],.p [5] [],.p [6] [],.p [7] [0],.v [8,4] (zFt v 1 R.p m),.v [9,0] (.tuple #[bI ((bs.drop R.p).getD 0 0),zI 1,zI 0]),.p [10] [],.p [11] [],.p [11] [],.p [11] [],.p [12] [],.p [13] [],.p [14] []] [15,16,17] hs .n (.c .z .n) (by kernel_rfl) ⟨rfl,rfl,λ_ _ _ _ hm hs K=>zH1 (j:=R.p) hs rfl rfl rfl (hm.rd0 hb).isSl (by omega) underlying28 sizeOf5 rfl (vk K),λ_ _ _ _ hm hs K=>zAr (us:=[]) (v:=.tuple #[bI ((bs.drop R.p).getD 0 0),zI 1,zI 0]) hs rfl (.c rfl .n) rfl call294 (zTv _ _ (bs.drop R.p) _ ((hm.rd0 hb).slcL (l:=R.p) (by omega)) (by omega)) rfl (vk K),⟨rfl,by kernel_rfl,λ_=>rfl,rfl,rfl,trivial⟩,λ_=>rfl,?_⟩
 refine goE 14 [0,0] [4] (.c .z .n) ⟨rfl,(by omega),rfl,?_⟩
 intro a w hs;exact fin hs rfl rfl (by first | (rw [zD4 (by omega)];exact ⟨rfl,rfl⟩) | (rw [zDW (by omega) (by omega)];exact ⟨rfl,rfl⟩) | (have he0:R.e=0:=(by omega);rw [zDy he0 (by omega)];simp [he0,nI]))
theorem zJ6 (g:Nat) (v:Value) (m:Nat) (bs:List zQ) (R:Rs) (w0:World) (hb:Rd w0 [g] v 1 m (zD bs)) (hg:(blk g [v,nI R.p,nI R.e] 336).p w0) (hle:R.p≤bs.length):Calls Tryz.prog 273 #[pt g 0] w0 (Ret w0 [g] λu N=>u = .int .u8 (((zH bs R).1.toNat:Nat):Int)∧N=[blk g [v,nI (((zH bs R).2).p),nI (((zH bs R).2).e)] 336]):=by
 have hbl:bs.length=m:=by have:=hb.len;simpa [zD] using this
 have hbe:m≤maxLen:=hb.le
 simp only [maxLen] at hbe
 refine zG (F0:=[(0,pt g 0)]) func273 rfl rfl rfl (.c .n) (zAq hg) ?_
 refine go 2 [] [3] .n ?_
 intro a w hs;refine zAf hs (.c rfl (.c rfl .n)) call293 (.c .z .n) (zTe  g _ _ bs R _ (hs.mem.rd1 hb (.c .z .n)) (hs.mem.del .z) (by omega)) rfl ?_
 have hk1:=zEF (bs:=bs) (R:=R) (by omega)
 refine goL 1 [] [2] .n ?_
 intro a w hs;exact fin hs rfl rfl ⟨rfl,rfl⟩
theorem zUk (gl:Nat) (X:BitVec 64) (g:Nat) (v:Value) (m:Nat) (bs:List zQ) (R:Rs) (w0:World) (hb:Rd w0 [g] v 1 m (zD bs)) (hg:(blk g [v,nI R.p,nI R.e] 336).p w0) (hle:R.p≤bs.length) {tl:TypeId} (hl:(blk gl [.int .u64 (X.toNat:Int)] tl).p w0) (hgl:gl≠g):Calls Tryz.prog 274 #[pt g 0,.func (.func 275) #[] #[pt gl 0]] w0 (Ret w0 [g] λu N=>u = .int .u64 (((zP bs X R).1.toNat:Nat):Int)∧N=[blk g [v,nI (((zP bs X R).2).p),nI (((zP bs X R).2).e)] 336]):=by
 have hbl:bs.length=m:=by have:=hb.len;simpa [zD] using this
 have hbe:m≤maxLen:=hb.le
 simp only [maxLen] at hbe
 refine zG (F0:=[(0,pt g 0),(1,.func (.func 275) #[] #[pt gl 0])]) func274 rfl rfl rfl (.c (.c .n)) (zAq hg) ?_
 refine go 3 [] [9,5,0,1] .n ?_
 intro a w hs;refine zB (v:=nI R.e) hs (.c rfl .n) call233 (zGs g _ _ bs R _ (hs.rd0 hb) (hs.mem.del .z) (by omega)) rfl ?_
 refine goL 1 [] [11,5,0,1] .n ?_
 refine ifG rfl (λc_1=>?_) (λc_1=>?_)
 ·
  refine go 2 [] [4] .n ?_
  intro a w hs;exact fin hs rfl rfl (by first | (rw [zCu (by omega)];exact ⟨rfl,rfl⟩) | (rw [zCc (by omega) (by omega)];exact ⟨rfl,rfl⟩) | (rw [zDt (by omega) (by omega) (by omega)];exact ⟨rfl,rfl⟩) | (have he0:R.e=0:=(by omega);rw [zDC he0 (by omega) (by omega)];simp [he0,nI]))
 refine go 1 [] [13,5,0,1] .n ?_
 intro a w hs;refine zB (v:=nI (bs.length-R.p)) hs (.c rfl .n) call234 (zKf g _ _ bs R _ (hs.rd0 hb) (hs.mem.del .z) (by omega)) rfl ?_
 refine goL 1 [] [15,5,0,1] .n ?_
 refine ifG rfl (λc_2=>?_) (λc_2=>?_)
 ·
  refine go 6 [0] [4] (.c .z .n) ⟨rfl,?_⟩
  intro a w hs;exact fin hs rfl rfl (by first | (rw [zCu (by omega)];exact ⟨rfl,rfl⟩) | (rw [zCc (by omega) (by omega)];exact ⟨rfl,rfl⟩) | (rw [zDt (by omega) (by omega) (by omega)];exact ⟨rfl,rfl⟩) | (have he0:R.e=0:=(by omega);rw [zDC he0 (by omega) (by omega)];simp [he0,nI]))
 refine go 0 [] [5,0,1] .n ?_
 intro a w hs
 refine zO [.p [] [],.p [] [],.p [1] [],.p [2] [],.p [3] [0],.p [] [],.p [5] [],.p [6] [],.p [7] [0],.v [8,4] (zFt v 1 R.p m),.v [9,0] (.tuple #[qI ((zCW (bs.drop R.p)).1),nI ((zCW (bs.drop R.p)).2.1),nI (zIt (bs.drop R.p) X)]),.p [10] [],.p [11] [],.p [11] [],.p [11] [],.p [12] [],.p [13] [],.p [14] []] [15,16,17] hs .n (.c .z .n) (by kernel_rfl) ⟨rfl,rfl,λ_ _ _ _ hm hs K=>zH1 (j:=R.p) hs rfl rfl rfl (hm.rd0 hb).isSl (by omega) underlying28 sizeOf5 rfl (vk K),λ_ _ _ _ hm hs K=>zAr (us:=[pt gl 0]) (v:=.tuple #[qI ((zCW (bs.drop R.p)).1),nI ((zCW (bs.drop R.p)).2.1),nI (zIt (bs.drop R.p) X)]) hs rfl (.c rfl .n) rfl call275 (zU4 _ _ (bs.drop R.p) gl X _ ((hm.rd0 hb).slcL (l:=R.p) (by omega)) (hm.keep hl (by simpa [zN,blk] using hgl))) rfl (vk K),⟨rfl,by kernel_rfl,λ_=>rfl,rfl,rfl,trivial⟩,λ_=>rfl,?_⟩
 refine goE 2 [] [36,8,7,6,5,0] .n ?_
 refine ifG rfl (λc_4=>?_) (λc_4=>?_)
 ·
  refine go 7 [0] [4] (.c .z .n) ⟨rfl,?_⟩
  intro a w hs;exact fin hs rfl rfl (by first | (rw [zCu (by omega)];exact ⟨rfl,rfl⟩) | (rw [zCc (by omega) (by omega)];exact ⟨rfl,rfl⟩) | (rw [zDt (by omega) (by omega) (by omega)];exact ⟨rfl,rfl⟩) | (have he0:R.e=0:=(by omega);rw [zDC he0 (by omega) (by omega)];simp [he0,nI]))
 have hul:=@zQP (bs.drop R.p) X
 intro a w hs;rw [List.length_drop] at hul
 have hul2:=hul (by omega)
 revert a w hs
 refine go 11 [0,0] [4] (.c .z .n) ⟨rfl,(by omega),rfl,?_⟩
 intro a w hs;exact fin hs rfl rfl (by first | (rw [zCu (by omega)];exact ⟨rfl,rfl⟩) | (rw [zCc (by omega) (by omega)];exact ⟨rfl,rfl⟩) | (rw [zDt (by omega) (by omega) (by omega)];exact ⟨rfl,rfl⟩) | (have he0:R.e=0:=(by omega);rw [zDC he0 (by omega) (by omega)];simp [he0,nI]))
theorem zES (X:BitVec 64) (g:Nat) (v:Value) (m:Nat) (bs:List zQ) (R:Rs) (w0:World) (hb:Rd w0 [g] v 1 m (zD bs)) (hg:(blk g [v,nI R.p,nI R.e] 336).p w0) (hle:R.p≤bs.length):Calls Tryz.prog 229 #[pt g 0,.int .u64 (X.toNat:Int)] w0 (Ret w0 [g] λu N=>u = .int .u64 (((zP bs X R).1.toNat:Nat):Int)∧N=[blk g [v,nI (((zP bs X R).2).p),nI (((zP bs X R).2).e)] 336]):=by
 have hbl:bs.length=m:=by have:=hb.len;simpa [zD] using this
 have hbe:m≤maxLen:=hb.le
 simp only [maxLen] at hbe
 refine zG (F0:=[(0,pt g 0),(1,qI X)]) func229 rfl rfl rfl (.c (.c .n)) (zAq hg) ?_
 refine go 4 [0] [6,5] .n (λg1=>?_)
 intro a w hs;have hgn:=hs.mem.apart .z (.c .z .n)
 refine zL hs (.c rfl (.c rfl .n)) call274 (.c (.s .z) .n) (zUk g1 X g _ _ bs R _ (hs.mem.rd1 hb (.c (.s .z) .n)) (hs.mem.del (.s .z)) (by omega) (hs.mem.del .z) hgn) rfl ?_;clear hs w a hgn;rintro _ _ a w ⟨rfl,rfl⟩ hs
 revert a w hs
 refine goL 1 [] [4] .n ?_
 refine cl (·.drop (.c (.s .z) .n)) ?_
 intro a w hs;exact fin hs rfl rfl ⟨rfl,rfl⟩
theorem zIP (g:Nat) (v:Value) (m:Nat) (bs:List zQ) (R:Rs) (w0:World) (hb:Rd w0 [g] v 1 m (zD bs)) (hg:(blk g [v,nI R.p,nI R.e] 336).p w0) (hle:R.p≤bs.length):Calls Tryz.prog 230 #[pt g 0] w0 (Ret w0 [g] λu N=>u=zI (zAE bs R).1∧N=[blk g [v,nI (((zAE bs R).2).p),nI (((zAE bs R).2).e)] 336]):=by
 have hbl:bs.length=m:=by have:=hb.len;simpa [zD] using this
 have hbe:m≤maxLen:=hb.le
 simp only [maxLen] at hbe
 refine zG (F0:=[(0,pt g 0)]) func230 rfl rfl rfl (.c .n) (zAq hg) ?_
 refine go 2 [] [3] .n ?_
 intro a w hs;refine zAf hs (.c rfl (.c rfl .n)) call229 (.c .z .n) (zES (18446744073709551615#64) g _ _ bs R _ (hs.mem.rd1 hb (.c .z .n)) (hs.mem.del .z) (by omega)) rfl ?_
 have hk1:=zA8 (X:=18446744073709551615#64) (bs:=bs) (R:=R) (by omega)
 intro a w hs;refine zB (v:=zI (zPJ ((zP bs (18446744073709551615#64) R).1))) hs (.c rfl .n) call277 (zad ((zP bs (18446744073709551615#64) R).1) _) rfl ?_
 have:=zF7 ((zP bs (18446744073709551615#64) R).1)
 refine goL 1 [] [2] .n ?_
 intro a w hs;exact fin hs rfl rfl ⟨rfl,rfl⟩
theorem zQ2 (g:Nat) (v:Value) (m:Nat) (bs:List zQ) (R:Rs) (w0:World) (hb:Rd w0 [g] v 1 m (zD bs)) (hg:(blk g [v,nI R.p,nI R.e] 336).p w0) (hle:R.p≤bs.length):Calls Tryz.prog 287 #[pt g 0] w0 (Ret w0 [g] λu N=>u=(.agg #[zI (zAE bs R).1,zI (zAE bs (zAE bs R).2).1,zI (zAE bs (zAE bs (zAE bs R).2).2).1])∧N=[blk g [v,nI ((zZ2 bs R).p),nI ((zZ2 bs R).e)] 336]):=by
 have hbl:bs.length=m:=by have:=hb.len;simpa [zD] using this
 have hbe:m≤maxLen:=hb.le
 simp only [maxLen] at hbe
 refine zG (F0:=[(0,pt g 0)]) func287 rfl rfl rfl (.c .n) (zAq hg) ?_
 refine go 3 [] [5,3,2,0] .n (λg1=>λg2=>?_)
 intro a w hs;refine zCA 3 ?_
 revert a w hs
 refine go 6 [] [9,8,5,3,2,0] .n ?_
 intro a w hs;refine zAf hs (.c rfl .n) call230 (.c (.s (.s .z)) .n) (zIP  g _ _ bs R _ (hs.mem.rd1 hb (.c (.s (.s .z)) .n)) (hs.mem.del (.s (.s .z))) (by omega)) rfl ?_
 have hk3:=zDX (bs:=bs) (R:=R) (by omega)
 refine goL 4 [0] [5,3,2,0] (.c (.s .z) .n) ⟨rfl,by decide,?_⟩
 intro a w hs;refine zAL ?_
 revert a w hs
 refine go 6 [] [9,8,5,3,2,0] .n ?_
 intro a w hs;refine zAf hs (.c rfl .n) call230 (.c (.s .z) .n) (zIP  g _ _ bs ((zAE bs R).2) _ (hs.mem.rd1 hb (.c (.s .z) .n)) (hs.mem.del (.s .z)) (by omega)) rfl ?_
 have hk4:=zDX (bs:=bs) (R:=((zAE bs R).2)) (by omega)
 refine goL 4 [0] [5,3,2,0] (.c (.s .z) .n) ⟨rfl,by decide,?_⟩
 intro a w hs;refine zAL ?_
 revert a w hs
 refine go 6 [] [9,8,5,3,2,0] .n ?_
 intro a w hs;refine zAf hs (.c rfl .n) call230 (.c (.s .z) .n) (zIP  g _ _ bs ((zAE bs ((zAE bs R).2)).2) _ (hs.mem.rd1 hb (.c (.s .z) .n)) (hs.mem.del (.s .z)) (by omega)) rfl ?_
 have hk5:=zDX (bs:=bs) (R:=((zAE bs ((zAE bs R).2)).2)) (by omega)
 refine goL 4 [0] [5,3,2,0] (.c (.s .z) .n) ⟨rfl,by decide,?_⟩
 intro a w hs;refine zAL ?_
 revert a w hs
 refine go 4 [0,1] [2] (.c .z (.c (.s .z) .n)) ⟨rfl,rfl,?_⟩
 intro a w hs;exact zI0 hs rfl rfl (.s .z) (.z (.c (.c (.c .n)))) isAgg40 sizeOf40 (.c (.s .z) (.c .z .n)) ⟨rfl,rfl⟩
theorem zDp (e:Nat) (g:Nat) (v:Value) (m:Nat) (bs:List zQ) (R:Rs) (w0:World) (hb:Rd w0 [g] v 1 m (zD bs)) (hg:(blk g [v,nI R.p,nI R.e] 336).p w0) (hle:R.p≤bs.length):Calls Tryz.prog 231 #[pt g 0,nI e] w0 (Ret w0 [g] λu N=>u = .tuple #[]∧N=[blk g [v,nI ((zBo e R).p),nI ((zBo e R).e)] 336]):=by
 have hbl:bs.length=m:=by have:=hb.len;simpa [zD] using this
 have hbe:m≤maxLen:=hb.le
 simp only [maxLen] at hbe
 refine zG (F0:=[(0,pt g 0),(1,nI e)]) func231 rfl rfl rfl (.c (.c .n)) (zAq hg) ?_
 refine go 1 [] [4,0,1] .n ?_
 intro a w hs;refine zB (v:=nI R.e) hs (.c rfl .n) call233 (zGs g _ _ bs R _ (hs.rd0 hb) (hs.mem.del .z) (by omega)) rfl ?_
 refine goL 1 [] [6,0,1] .n ?_
 refine ifG rfl (λc_1=>?_) (λc_1=>?_)
 ·
  refine go 5 [0] [] (.c .z .n) ⟨rfl,?_⟩
  intro a w hs;exact zIo hs rfl ⟨rfl,by unfold zBo;first | rw [if_pos (by omega)] | rw [if_neg (by omega)]⟩
 refine go 0 [] [] .n ?_
 intro a w hs;exact zIo hs rfl ⟨rfl,by unfold zBo;first | rw [if_pos (by omega)] | rw [if_neg (by omega)]⟩
theorem zZ9 (v:Value) (m:Nat) (bs:List zQ) (w0:World) (hb:Rd w0 [] v 1 m (zD bs)):Calls Tryz.prog 179 #[v] w0 (Ret w0 [] λu N=>∃ g,u=pt g 0∧N=[blk g [v,nI ((⟨0,0⟩ : Rs).p),nI ((⟨0,0⟩ : Rs).e)] 336]):=by
 have hbl:bs.length=m:=by have:=hb.len;simpa [zD] using this
 have hbe:m≤maxLen:=hb.le
 simp only [maxLen] at hbe
 refine zG (F0:=[(0,v)]) func179 rfl rfl rfl (.c .n) (Mem.nil _) ?_
 refine go 2 [] [3] .n ?_
 intro a w hs;refine zF1 (it:=Tryz.t336) (zs:=[.slice none 0 0,zI 0,zI 0]) (places:=[(0,1),(1,1),(2,1)]) hs (.c rfl .n) underlying336 rfl rfl rfl rfl (.c rfl (hs.rd0 hb).isSl.lcells (.z (.c .n)) .n) rfl ?_
 refine goL 2 [0] [2] .n (λg1=>?_)
 intro a w hs;exact fin hs rfl rfl ⟨_,rfl,rfl⟩
end Go.Proofs.YtljpfgacpofkpaaGreat
