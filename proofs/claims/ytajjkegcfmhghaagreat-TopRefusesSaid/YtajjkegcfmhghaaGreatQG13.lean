import Derived.Test.YtajjkegcfmhghaaGreatQSxRecs
import Derived.Shelf.SlSortCmp.NoneTotal
import Derived.Test.YtajjkegcfmhghaaGreatQG12
import Derived.Test.YtajjkegcfmhghaaGreatQSxStos
import Derived.Test.YtajjkegcfmhghaaGreatQSxBasB
import Derived.Test.YtajjkegcfmhghaaGreatProg
import Derived.KernelRfl
import Derived.Test.YtajjkegcfmhghaaGreatQG9
set_option linter.unusedVariables false
set_option linter.unusedSimpArgs false
namespace Go.Sx
open Go.RowKit Go.Shelf Go.Sort Go.Proofs
variable {P : Program} {ρ : Ren} {α : Type} [Inhabited α]
theorem zHm {enc:α→List Value} {k:Nat} (hk:∀ x,(enc x).length=k) (l:List α):(Sort.flatK enc k l.toArray).toList=l.flatMap enc:=by
 apply List.ext_getElem?
 intro j
 by_cases hj:j<l.length*k
 · have k0 : 0 < k := by
     rcases Nat.eq_zero_or_pos k with h | h
     · subst h;simp at hj
     · exact h
   have hd:j/k<l.length:=Nat.div_lt_of_lt_mul (by rwa [Nat.mul_comm] at hj)
   have hm:j%k<k:=Nat.mod_lt _ k0
   have e:j=j/k*k+j%k:=by rw [Nat.mul_comm];exact (Nat.div_add_mod j k).symm
   have h1:=zDn hk l (j/k) (j%k) hd hm
   rw [← e] at h1
   rw [h1]
   have h2:j<(Sort.flatK enc k l.toArray).size:=by rw [size_flatK];simpa using hj
   rw [Array.getElem?_toList,Array.getElem?_eq_getElem h2]
   have h3:=get_flatK enc k l.toArray j (by simpa using hj)
   rw [getElem!_pos _ j h2] at h3
   rw [h3]
   have h4:l.toArray[j/k]! = l.getD (j/k) default:=by
     rw [getElem!_pos _ _ (by simpa using hd),List.getD_eq_getElem?_getD,List.getElem?_eq_getElem hd]
     simp
   rw [h4,List.getElem?_eq_getElem (by rw [hk];exact hm),getElem!_pos _ _ (by rw [hk];exact hm)]
 · rw [List.getElem?_eq_none (by simp;omega),List.getElem?_eq_none (by rw [zAX hk];omega)]
theorem zSi (L : SlLaysF0.n6 P ρ) (k : Nat) (aE : ∀ w, (isAgg (ρ.t 24)).run P w = .ok true w) (zE : ∀ w, (Go.sizeOf (ρ.t 24)).run P w = .ok k w) (enc : α → List Value) (hk : ∀ x, (enc x).length = k) (h1 : ∀ x, ∀ v ∈ enc x, v.oneCell' = true) (cf : α → α → Int) (hO : SWO (ltOf cf)) (g : Nat)
   (eg:∀ args w,(callFunc g args).run P w = .ok (.enter g args) w)
   (hcmp:∀ (W:World) (x y:α),Calls P g #[.agg (enc x).toArray,.agg (enc y).toArray] W λe w'=>e = .returned (.int .i64 (cf x y))∧∃ q os',w'=grow (W.drewN q) os')
   {w:World} {v:Value} {e m:Nat} {l:List α} (hr:(row v e k m (l.flatMap enc)).p w) (hl:l.length=m) (hm:m≤1000000) :
   Calls P (ρ.f 6) #[v,.func (.func g) #[] #[]] w (Ret w (zO [row v e k m (l.flatMap enc)]) λu N=>u = .tuple #[]∧∃ l':List α,l'.Perm l∧l'.Pairwise (λx y=>ltOf cf y x=false)∧N=[row v e k m (l'.flatMap enc)]):=by
 have hr0:=hr
 obtain ⟨hlen,hr⟩:=hr
 rcases hr with ⟨rfl,rfl⟩ | ⟨g',cap,cur,rfl,_,hb,hmc,hcl,hcs,hcur⟩
 · obtain rfl:l=[]:=List.length_eq_zero_iff.1 hl
   refine (AnyF.slices_SortFunc_none L none 0 _ w).mono ?_
   rintro e' w' ⟨rfl,rfl⟩
   exact ⟨_,_,rfl,⟨rfl,[],List.Perm.refl _,List.Pairwise.nil,rfl⟩,zAq hr0 (by simp [row,Value.ownBlock])⟩
 · have hsz:l.toArray.size=m:=by simpa using hl
   have hlt:g'<w.heap.size:=(Array.getElem?_eq_some_iff.1 hb).1
   have hft:=zHm hk l
   have hH:HoldsK enc k w g' 0 l.toArray:=by
     intro j hj
     rw [size_flatK,hsz] at hj
     have hj2:j<cur.toList.length:=by
       have:=Nat.mul_le_mul_right k hmc
       simp;omega
     refine ⟨?_,by simp [World.frozen?,hb]⟩
     have h2:(Sort.flatK enc k l.toArray)[j]? = cur[j]?:=by
       rw [← Array.getElem?_toList,hft,← hcur,List.getElem?_take,if_pos hj,Array.getElem?_toList]
     have h3:j<(Sort.flatK enc k l.toArray).size:=by rw [size_flatK,hsz];exact hj
     rw [getElem!_pos _ j h3]
     rw [Array.getElem?_eq_getElem h3] at h2
     simp [World.cell?,hb,← h2]
   have hcon:=AnyQ.slices_SortFunc L k aE zE enc hk h1 cf hO g #[] g' 0 cap l.toArray w eg (λ_ _ _ _ x y=>by simpa using hcmp _ x y) hH hlt (by rw [hsz];omega)
   rw [hsz] at hcon
   refine hcon.mono ?_
   rintro e' w' ⟨rfl,d',n,os,hp,hs,rfl⟩
   obtain ⟨hd1,_,hd2⟩:=hp
   have hd:d'.size=m:=by rw [hd1,hsz]
   have hex:∀ d:Array α,d.size=m→d.extract 0 m=d:=λd h=>by rw [← h];exact Array.extract_size
   rw [hex _ hd,hex _ hsz] at hd2
   have hd3:d'=d'.toList.toArray:=by simp
   have hfd:=zHm hk d'.toList
   rw [← hd3] at hfd
   have hnew:(sortWorldK enc k w g' 0 n d' os).heap[g']? = some (.cells (putCells id 0 (Sort.flatK enc k d') cur) e (0,0)):=by
     unfold sortWorldK putRowK putRow mapBlock grow
     simp only [ahead]
     rw [Array.getElem?_append_left (by simpa using hlt),Array.getElem?_modify,if_pos rfl]
     show (w.heap[g']?).map _=_
     rw [hb]
     rfl
   refine ⟨_,_,rfl,⟨rfl,d'.toList,by simpa using hd2,?_,rfl⟩,⟨rfl,rfl,rfl,by simp [sortWorldK,putRowK,putRow,mapBlock,grow,ahead],λj hj hS=>?_⟩,?_,?_,?_⟩
   · refine List.pairwise_iff_getElem.2 λi j hi hj hij=>?_
     have:=hs i j (Nat.zero_le _) hij (by simpa [hd] using hj)
     rwa [getElem!_pos _ i (by simpa using hi),getElem!_pos _ j (by simpa using hj)] at this
   · have hne:j≠g':=by simpa [zO,row,Value.ownBlock] using hS
     unfold sortWorldK putRowK putRow mapBlock grow
     simp only [ahead]
     rw [Array.getElem?_append_left (by simpa using hj),Array.getElem?_modify,if_neg (Ne.symm hne)]
     rfl
   · intro h hh
     simp only [List.mem_singleton] at hh
     subst hh
     refine ⟨by rw [zAX hk,Array.length_toList,hd],.inr ⟨g',cap,_,rfl,Nat.zero_le _,hnew,hmc,hcl,by simp [putCells,hcs],?_⟩⟩
     apply List.ext_getElem?
     intro j
     rw [List.getElem?_take,← hfd]
     by_cases hj:j<m*k
     · rw [if_pos hj]
       have h3:j<(Sort.flatK enc k d').size:=by rw [size_flatK,hd];exact hj
       have h5:j<cur.size:=by
         have:=Nat.mul_le_mul_right k hmc
         omega
       rw [Array.getElem?_toList,Array.getElem?_toList,Array.getElem?_eq_getElem h3,putCells,Array.getElem?_mapIdx,Array.getElem?_eq_getElem h5]
       simp only [Option.map_some,Nat.zero_le,Nat.zero_add,true_and,Nat.sub_zero,h3,if_true,id]
       rw [getElem!_pos _ j h3]
     · rw [if_neg hj,List.getElem?_eq_none (by simp [hd];omega)]
   · simp [zO,row,Value.ownBlock]
   · intro j hj
     exact .inl (by simpa [zO,row,Value.ownBlock] using hj)
omit [Inhabited α] in
theorem zNC {f:α→Int} (x y:α):ltOf (λx y:α=>Lib.compareInt (f x) (f y)) x y=decide (f x<f y):=by
 unfold ltOf Lib.compareInt
 by_cases h1:f x<f y
 · simp [h1]
 · by_cases h2:f y<f x<;>simp [h1,h2]
omit [Inhabited α] in
theorem zSI (f:α→Int):SWO (ltOf λx y:α=>Lib.compareInt (f x) (f y)) where
 irrefl x:=by rw [zNC];simp
 trans x y z h1 h2:=by rw [zNC] at *;simp at *;omega
 ntrans x y z h1 h2:=by rw [zNC] at *;simp at *;omega
end Go.Sx
namespace Go.Proofs.YtajjkegcfmhghaaGreat
open Tryz
open Go Go.Sx Go.RowKit Go.Lib Go.Sort
set_option maxRecDepth 4000
set_option maxHeartbeats 1000000
theorem zP8 (x y:zS) (W:World):Calls Tryz.prog 150 #[.agg #[zI x.id,zI x.p0,zI x.p1,zI x.p2,zI x.v0,zI x.v1,zI x.v2,.int .u16 (((x.a).toNat:Nat):Int),bI x.g],.agg #[zI y.id,zI y.p0,zI y.p1,zI y.p2,zI y.v0,zI y.v1,zI y.v2,.int .u16 (((y.a).toNat:Nat):Int),bI y.g]] W λe w'=>e = .returned (zI (Lib.compareInt x.id y.id))∧∃ q os',w'=Sort.grow (W.drewN q) os':=by
 have hcon:=λW'=>AnyG.cmp_Compare_int Tryz.cmpInt x.id y.id W'
 change ∀ W',Calls Tryz.prog 117 _ _ _ at hcon
 generalize Lib.compareInt x.id y.id=r at hcon ⊢
 go_enter func150,Tryz.ntmps150
 go_wp2_with (go_at_call 117;refine (hcon _).mono ?_;rintro e w' ⟨rfl,rfl⟩)
 go_ret
 exact ⟨rfl,0,_,by rw [alloc_eq_grow,alloc_eq_grow,grow_grow];rfl⟩
theorem zQA (x y:zW) (W:World):Calls Tryz.prog 116 #[.agg #[zI x.k,zI x.id,zI x.p0,zI x.p1,zI x.p2,zI x.v0,zI x.v1,zI x.v2,.int .u16 (((x.a).toNat:Nat):Int)],.agg #[zI y.k,zI y.id,zI y.p0,zI y.p1,zI y.p2,zI y.v0,zI y.v1,zI y.v2,.int .u16 (((y.a).toNat:Nat):Int)]] W λe w'=>e = .returned (zI (Lib.compareInt x.id y.id))∧∃ q os',w'=Sort.grow (W.drewN q) os':=by
 have hcon:=λW'=>AnyG.cmp_Compare_int Tryz.cmpInt x.id y.id W'
 change ∀ W',Calls Tryz.prog 117 _ _ _ at hcon
 generalize Lib.compareInt x.id y.id=r at hcon ⊢
 go_enter func116,Tryz.ntmps116
 go_wp2_with (go_at_call 117;refine (hcon _).mono ?_;rintro e w' ⟨rfl,rfl⟩)
 go_ret
 exact ⟨rfl,0,_,by rw [alloc_eq_grow,alloc_eq_grow,grow_grow];rfl⟩
theorem zUu {w:World} {v:Value} {m:Nat} {l:List zS} (hr:(row v 48 9 m (l.flatMap zBJ)).p w) (hl:l.length=m) (hm:m≤1000000):Calls Tryz.prog 180 #[v,.func (.func 150) #[] #[]] w (Ret w (zO [row v 48 9 m (l.flatMap zBJ)]) λu N=>u = .tuple #[]∧∃ l':List zS,(l'.Perm l∧l'.Pairwise (λx y=>x.id≤y.id))∧N=[row v 48 9 m (l'.flatMap zBJ)]):=by
 have h:=zSi (α:=zS) Tryz.sortE 9 isAgg48 sizeOf48 zBJ zBd (λx u hu=>by simp only [zBJ,List.mem_cons,List.not_mem_nil,or_false] at hu;rcases hu with rfl | rfl | rfl | rfl | rfl | rfl | rfl | rfl | rfl<;>rfl) (λx y:zS=>Lib.compareInt x.id y.id) (zSI (λx:zS=>x.id)) 150 call150 (λW x y=>zP8 x y W) hr hl hm
 change Calls Tryz.prog 180 _ _ _ at h
 refine h.mono ?_
 rintro e w' ⟨u,N,rfl,⟨rfl,l',hp,hs,rfl⟩,hM⟩
 refine ⟨_,_,rfl,⟨rfl,l',⟨hp,hs.imp λh=>?_⟩,rfl⟩,hM⟩
 rw [zNC] at h
 simp only [decide_eq_false_iff_not] at h
 omega
theorem zUz {w:World} {v:Value} {m:Nat} {l:List zW} (hr:(row v 55 9 m (l.flatMap zEA)).p w) (hl:l.length=m) (hm:m≤1000000):Calls Tryz.prog 115 #[v,.func (.func 116) #[] #[]] w (Ret w (zO [row v 55 9 m (l.flatMap zEA)]) λu N=>u = .tuple #[]∧∃ l':List zW,(l'.Perm l∧l'.Pairwise (λx y=>x.id≤y.id))∧N=[row v 55 9 m (l'.flatMap zEA)]):=by
 have h:=zSi (α:=zW) Tryz.sortR 9 isAgg55 sizeOf55 zEA zGm (λx u hu=>by simp only [zEA,List.mem_cons,List.not_mem_nil,or_false] at hu;rcases hu with rfl | rfl | rfl | rfl | rfl | rfl | rfl | rfl | rfl<;>rfl) (λx y:zW=>Lib.compareInt x.id y.id) (zSI (λx:zW=>x.id)) 116 call116 (λW x y=>zQA x y W) hr hl hm
 change Calls Tryz.prog 115 _ _ _ at h
 refine h.mono ?_
 rintro e w' ⟨u,N,rfl,⟨rfl,l',hp,hs,rfl⟩,hM⟩
 refine ⟨_,_,rfl,⟨rfl,l',⟨hp,hs.imp λh=>?_⟩,rfl⟩,hM⟩
 rw [zNC] at h
 simp only [decide_eq_false_iff_not] at h
 omega
theorem zYJ (g bx L:Nat) (l:List zS) (R:List zS→HA→Prop) (X:HA) (w0:World) (hg:(mpr g (ekv l)).p w0) (hb:(blk bx [.map (some g)] 156).p w0) (hX:X.p w0) (hR:R [] X) (hnd:(zO [mpr g (ekv l),blk bx [.map (some g)] 156,X]).Nodup) (hy:zLB Tryz.prog L l R):Calls Tryz.prog 181 #[.func (.yield L) #[] #[],pt bx 0] w0 (Ret w0 (zO [mpr g (ekv l),blk bx [.map (some g)] 156,X]) λu N=>∃ done X',done.Perm l∧R done X'∧N=[mpr g (ekv l),blk bx [.map (some g)] 156,X']):=by
 refine enter (F0:=[(0,.func (.yield L) #[] #[]),(1,pt bx 0)]) func181 rfl rfl rfl (.c (.c .n)) (zSG hg hb hX hnd) λa w hs=>?_
 refine wp_seq_k λK1 hK2=>?_
 refine wp_region_lit ?_
 refine zLj hs rfl (.s .z) .z isAgg156 rfl ?_;clear hs w a;intro a w hs
 refine zMM hs rfl .z underlying156 rfl ?_;clear hs w a;intro it3 a w hs
 refine wpList_nil ?_
 refine zAw (hK2 _ _ ?_)
 refine wp_block ?_
 refine zLX (λmm_ a w=>∃ done:List zS,∃ Y:HA,mm_=l.length-done.length∧St 15 [(0,.func (.yield L) #[] #[]),(1,pt bx 0),(6,pt it3 0)] w0 (zO [mpr g (ekv l),blk bx [.map (some g)] 156,X]) [mit g it3 (ekv l) (ekv done),blk bx [.map (some g)] 156,Y] a w∧R done Y) ⟨[],X,rfl,hs.sub (.c rfl (.c rfl (.c rfl .n))),hR⟩ ?_
 clear hs w a;rintro mm_ a w ⟨done,Y,rfl,hs,hI1_0⟩
 refine wp_seq_k λK4 hK5=>?_
 refine wp_region_lit ?_
 refine zOs hs rfl .z rfl (λhp6=>?_) (λx7 hm8 hl9=>?_)
 ·
  clear hs w a;intro a w hs
  refine zH9 hs rfl .z rfl ?_;clear hs w a;intro a w hs
  refine wpList_nil ?_
  refine zAw (hK5 _ _ ?_)
  refine wp_seq_k λK10 hK11=>?_
  refine wp_cond_false (hs.ev rfl) ?_
  refine wp_exit ?_
  refine zcv ?_
  refine zcv ?_
  refine zTn ?_
  replace hs:=hs.mback .z
  exact zJW hs rfl ⟨_,_,hp6,hI1_0,rfl⟩
 clear hs w a;intro a w hs
 refine zH9 hs rfl .z rfl ?_;clear hs w a;intro a w hs
 refine wpList_nil ?_
 refine zAw (hK5 _ _ ?_)
 refine wp_seq_k λK12 hK13=>?_
 refine wp_cond_true (hs.ev rfl) ?_
 refine wp_skip ?_
 refine zAw (hK13 _ _ ?_)
 refine wp_block ?_
 refine wp_seq_k λK14 hK15=>?_
 refine wp_region_lit ?_
 refine zMO hs rfl .z rfl ?_;clear hs w a;intro a w hs
 refine zH9 hs rfl (.s .z) rfl ?_;clear hs w a;intro a w hs
 refine zCy (cs:=[zI 0,zI 0,zI 0,zI 0,zI 0,zI 0,zI 0,.int .u16 (0),.int .u8 (0)]) hs zeroValue48 rfl rfl ?_;clear hs w a;intro g16 a w hs
 refine zAb hs rfl rfl .z (.z (.c (.c (.c (.c (.c (.c (.c (.c (.c .n)))))))))) (zJ rfl (zJ rfl (zJ rfl (zJ rfl (zJ rfl (zJ rfl (zJ rfl (zJ rfl (zJ rfl zAe))))))))) sizeOf48 rfl ?_;clear hs w a;intro a w hs
 refine wpList_nil ?_
 refine zAw (hK15 _ _ ?_)
 refine wp_seq_k λK17 hK18=>?_
 refine (wpIn_wide (n:=1)).1 (wpIn_region_lit (zHd (l1:=[_,_]) (r:=none) (λ_ _ h=>by obtain ⟨_,_,h,_⟩:=h;cases h) _ _ (zAz rfl) ?_))
 refine zGe hs rfl rfl ?_;clear hs w a;intro a w hs
 refine zTu hs rfl .z (.z (.c (.c (.c (.c (.c (.c (.c (.c (.c .n)))))))))) isAgg48 sizeOf48 rfl ?_;clear hs w a;intro a w hs
 refine wpList_nil ?_
 show wpListIn _ _ _ _ _ _ _ _
 refine zW3 (X:=[Y]) hs rfl (.c rfl .n) (.c (.s (.s (.s .z))) .n) (hy.at hI1_0 hm8 hl9) rfl ?_
 clear hs w a;rintro _ a w ⟨Y2,rfl,hR2⟩ hs;simp only [List.cons_append,List.nil_append] at hs
 refine zUD (λ_ _ h=>by obtain ⟨_,_,h,_⟩:=h;cases h) (zAz rfl) ?_
 refine zXm hs rfl rfl ?_;clear hs w a;intro a w hs
 replace hs:=hs.recell (v':=.bool (false)) (Option.some.inj rfl)
 refine wpList_nil ?_
 refine zAw (hK18 _ _ ?_)
 refine wp_cond_false (hs.ev rfl) ?_
 refine wp_skip ?_
 refine zbv ?_
 refine zAw ?_
 replace hs:=hs.drop (.c (.s .z) .n)
 replace hs:=hs.reorder (.c (.s .z) (.c (.s .z) (.c .z .n)))
 have hal_:(done++[x7]).length=done.length+1:=by simp
 refine ⟨_,?_,_,_,rfl,hs.sub (.c rfl (.c rfl (.c rfl .n))),hR2⟩
 omega
theorem zR1 (g bx:Nat) (l:List zS) (w0:World) (hg:(mpr g (ekv l)).p w0) (hb:(blk bx [.map (some g)] 156).p w0) (hnd:(zO [mpr g (ekv l),blk bx [.map (some g)] 156]).Nodup) (hl:l.length≤100000):Calls Tryz.prog 205 #[.slice none 0 0,.func (.func 181) #[] #[pt bx 0]] w0 (Ret w0 (zO [mpr g (ekv l),blk bx [.map (some g)] 156]) λu N=>∃ l':List zS,l'.Perm l∧N=[row u 48 9 l'.length (l'.flatMap zBJ),mpr g (ekv l),blk bx [.map (some g)] 156]):=by
 refine zXO (F0:=[(0,.slice none 0 0),(1,.func (.func 181) #[] #[pt bx 0])]) func205 rfl rfl rfl (.c (.c .n)) (zES hg hb hnd) λa w hs=>?_
 refine wpIn_seq_k λK1 hK2=>?_
 refine zBu (λ_ _ h=>by obtain ⟨_,_,h,_⟩:=h;cases h) (zAz rfl) ?_
 refine zJ9 (cs:=[.slice none 0 0]) hs rfl rfl rfl ?_;clear hs w a;intro g3 a w hs
 refine zEH hs rfl rfl ?_;clear hs w a;intro a w hs
 refine wpList_nil ?_
 refine zAw (hK2 _ _ ?_)
 refine wpIn_seq_k λK4 hK5=>?_
 refine wpIn_seq_k λK6 hK7=>?_
 refine zBu (λ_ _ h=>by obtain ⟨_,_,h,_⟩:=h;cases h) (zAz rfl) ?_
 refine zGe hs rfl rfl ?_;clear hs w a;intro a w hs
 refine wpList_nil ?_
 refine zAw (hK7 _ _ ?_)
 refine wpIn_block ?_
 replace hs:=hs.addNil 48 9
 refine zMt hs rfl call181 (λfn D L W rec hrec hm=>?_)
 have hm2:=hm.reorder (X:=[mpr g (ekv l),blk bx [.map (some g)] 156,row (.slice none 0 0) 48 9 ([]:List zS).length (([]:List zS).flatMap zBJ),blk g3 [.slice none 0 0] 44,obj L (.loop (rec .ready)),obj D (.deferred (some []))]) (.c (.s (.s (.s (.s .z)))) (.c (.s (.s (.s (.s .z)))) (.c (.s (.s .z)) (.c (.s (.s .z)) (.c .z (.c .z .n))))))
 obtain ⟨hp1,hp2,hp3⟩:=Mem.parts (A:=[mpr g (ekv l),blk bx [.map (some g)] 156]) hm2
 have hy:zLB Tryz.prog L l (λdone X=>∃ v,X=zFa [row v 48 9 done.length (done.flatMap zBJ),blk g3 [v] 44,obj L (.loop (rec .ready)),obj D (.deferred (some []))]):=by
  rintro done x X W1 ⟨v,rfl⟩ hX hn hx hlt
  have hX2:=(zXa hX).reorder (X:=[obj L (.loop (rec .ready)),row v 48 9 done.length (done.flatMap zBJ),blk g3 [v] 44,obj D (.deferred (some []))]) (.c (.s (.s .z)) (.c .z (.c .z (.c .z .n))))
  refine zJ1 (zUh (post:=λN=>∃ v',N=[row v' 48 9 (done++[x]).length ((done++[x]).flatMap zBJ),blk g3 [v'] 44,obj D (.deferred (some []))]) hs hrec rfl rfl hX2 (λa w hs=>?_)) ?_
  ·
   refine zBu (λ_ _ h=>h) (zAz rfl) ?_
   refine zCy (cs:=[zI 0,zI 0,zI 0,zI 0,zI 0,zI 0,zI 0,.int .u16 (0),.int .u8 (0)]) hs zeroValue48 rfl rfl ?_;clear hs w a;intro g8 a w hs
   refine zAb hs rfl rfl .z (.z (.c (.c (.c (.c (.c (.c (.c (.c (.c .n)))))))))) (zJ rfl (zJ rfl (zJ rfl (zJ rfl (zJ rfl (zJ rfl (zJ rfl (zJ rfl (zJ rfl zAe))))))))) sizeOf48 rfl ?_;clear hs w a;intro a w hs
   refine wpList_nil ?_
   replace hs:=hs.reorder (.c (.s .z) (.c .z (.c .z (.c .z (.c .z .n)))))
   refine ⟨_,_,hs,?_⟩;clear hs;intro w3 hs
   refine wpIn_block (zBu (λ_ _ h=>by cases h.1) (zAz rfl) ?_)
   refine zLj hs rfl (.s (.s (.s .z))) .z isAgg44 rfl ?_;clear hs w a;intro a w hs
   refine zTu hs rfl (.s .z) (.z (.c (.c (.c (.c (.c (.c (.c (.c (.c .n)))))))))) isAgg48 sizeOf48 rfl ?_;clear hs w a;intro a w hs
   refine zIt (cs:=[zI x.id,zI x.p0,zI x.p1,zI x.p2,zI x.v0,zI x.v1,zI x.v2,.int .u16 (((x.a).toNat:Nat):Int),bI x.g]) hs (.c .n) (.c rfl .n) underlying44 (ie:=Tryz.t48) rfl rfl rfl rfl (by decide) (by decide) rfl (by decide) rfl rfl rfl ?_;clear hs w a;intro g9 a w hs
   refine zBI (size:=9) (bytes:=64) hs rfl rfl (.s (.s (.s .z))) (zAJ (m:=1) (size:=9) (hs.mem.del .z) rfl (by decide)) (by simp [Value.oneCell']) underlying44 (i:=Tryz.t48) rfl rfl rfl rfl rfl (by decide) (by omega) (by simp only [maxLen];omega) rfl ?_;clear hs w a;intro v10 a w hs
   replace hs:=hs.drop (.c (.s .z) .n)
   refine zBp hs rfl rfl (.s (.s (.s .z))) .z (zP (hs.mem.del .z)).isSl.one sizeOf44 ?_;clear hs w a;intro a w hs
   replace hs:=hs.rerow (.s .z) (m':=(done++[x]).length) (xs':=((done++[x]).flatMap zBJ)) (by rw [List.length_append];rfl) (by rw [List.flatMap_append];rfl)
   replace hs:=hs.drop (.c (.s (.s (.s .z))) .n)
   replace hs:=hs.reorder (.c (.s (.s .z)) (.c .z (.c .z (.c .z .n))))
   refine wpList_nil ?_
   exact ⟨rfl,_,⟨v10,rfl⟩,hs.mem⟩
  rintro e W' ⟨rfl,N,⟨v',rfl⟩,hM⟩
  exact ⟨rfl,_,⟨_,rfl,v',rfl⟩,(hM.reorder (.c (.s .z) (.c (.s .z) (.c .z (.c .z .n))))).sep⟩
 refine (zYJ g bx L l (λdone X=>∃ v,X=zFa [row v 48 9 done.length (done.flatMap zBJ),blk g3 [v] 44,obj L (.loop (rec .ready)),obj D (.deferred (some []))]) _ W (hp1 _ (by simp)) (hp1 _ (by simp)) hp2 ⟨_,rfl⟩ hp3 hy).mono ?_
 rintro e W' ⟨u,N,rfl,⟨done,X',hp,⟨v,rfl⟩,rfl⟩,hM⟩
 have hM2:=hm2.frame (X:=[mpr g (ekv l),blk bx [.map (some g)] 156]++[row (.slice none 0 0) 48 9 ([]:List zS).length (([]:List zS).flatMap zBJ),blk g3 [.slice none 0 0] 44,obj L (.loop (rec .ready)),obj D (.deferred (some []))]) (.c .z (.c .z (.c .z (.c .z (.c .z (.c .z .n)))))) (Mem.unsep2 (A:=[mpr g (ekv l),blk bx [.map (some g)] 156]) (A':=[mpr g (ekv l),blk bx [.map (some g)] 156]) hM)
 refine ⟨⟨_,rfl⟩,[row v 48 9 done.length (done.flatMap zBJ),mpr g (ekv l),blk bx [.map (some g)] 156,blk g3 [v] 44],hM2.reorder (.c (.s (.s (.s (.s .z)))) (.c (.s (.s (.s (.s .z)))) (.c (.s (.s .z)) (.c .z (.c .z (.c .z .n)))))),λW2 hM3=>?_⟩
 refine zbv ?_
 refine zAw (hK5 _ _ ?_)
 refine wpIn_seq_k λK9 hK9=>?_
 refine wpIn_region_lit ?_
 have hB:W2.heap[g3]? = some (.cells [v].toArray 44 (0,0)):=hM3.all (blk g3 [v] 44) (by simp)
 have ha2:=hs.agr 2 _ rfl
 have hz:=hs.size
 refine zKG (v:=v) (w':=W2) rfl (by intro c h;cases h) (zYz (g:=g3) (i:=0) (by simp [Act.eval,Array.getD_eq_getD_getElem?,ha2]) hB .z isAgg44) ?_
 refine zKG (v:=v) (w':=W2) rfl (by intro c h;cases h) (by simp [execOp,Act.eval,Act.put,Array.getD_eq_getD_getElem?,hz]) ?_
 refine zAw (hK9 _ _ ?_)
 refine wpIn_ret ?_
 rw [hs.dfr]
 refine zcI (v:=v) rfl (by simp [Act.put,Array.getD_eq_getD_getElem?,hz]) (hM3.all (obj D (.deferred (some []))) (by simp)) ?_
 have hM4:=(hM3.frame (X:=[obj D (.deferred (some []))]) (.c (.s .z) .n) (zDi (o':=.deferred none) (hM3.all (obj D (.deferred (some []))) (by simp)))).drop (X:=[obj D (.deferred none),obj L (.loop (rec .exhausted)),blk g3 [v] 44]) (.c .z (.c .z (.c (.s (.s (.s .z))) .n)))
 exact ⟨_,_,rfl,⟨done,hp,rfl⟩,hM4⟩
open Go Go.Sx Go.RowKit
theorem zMN (x:Int) (w0:World):Calls Tryz.prog 88 #[.int .i64 x] w0 (zAf w0 (.bool (decide (-2305843009213693952≤x∧x≤2305843009213693952)))):=by
 refine zG (F0:=[(0,zI x)]) func88 rfl rfl rfl (.c .n) (Mem.nil _) ?_
 refine go 4 [] [5,0] .n ?_
 intro a w hs;refine zY (b:=decide ((-2305843009213693952)≤x)) (λc_1=>?_) (λc_1=>?_)
 ·
  rw [c_1] at hs
  replace c_1:=of_decide_eq_true c_1
  revert a w hs
  refine go 4 [] [2] .n ?_
  intro a w hs;exact fin hs rfl rfl ⟨congrArg Value.bool (by first | (rw [decide_eq_decide];omega) | (symm;rw [decide_eq_false_iff_not];omega)),rfl⟩
 rw [c_1] at hs
 replace c_1:=of_decide_eq_false c_1
 revert a w hs
 refine go 4 [] [2] .n ?_
 intro a w hs;exact fin hs rfl rfl ⟨congrArg Value.bool (by first | (rw [decide_eq_decide];omega) | (symm;rw [decide_eq_false_iff_not];omega)),rfl⟩
theorem zHC (g:Nat) (v:Value) (m:Nat) (bs:List zN) (R:Rs) (w0:World) (hb:Rd w0 [] v 1 m (zC bs)) (hg:(blk g [v,nI R.p,nI R.e] 281).p w0) (hle:R.p≤bs.length):Calls Tryz.prog 177 #[pt g 0] w0 (zAf w0 (nI R.e)):=by
 have hbl:bs.length=m:=by have:=hb.len;simpa [zC] using this
 have hbe:m≤maxLen:=hb.le
 simp only [maxLen] at hbe
 refine zG (F0:=[(0,pt g 0)]) func177 rfl rfl rfl (.c .n) (Mem.nil _) ?_
 refine go 7 [] [7] .n ?_
 intro a w hs;refine zZ hs rfl (hs.mem.keep hg (by simp [zO,blk])) (.s (.s .z)) isAgg34 rfl ?_
 refine goL 1 [] [2] .n ?_
 intro a w hs;exact fin hs rfl rfl ⟨rfl,rfl⟩
theorem zLM (g:Nat) (v:Value) (m:Nat) (bs:List zN) (R:Rs) (w0:World) (hb:Rd w0 [] v 1 m (zC bs)) (hg:(blk g [v,nI R.p,nI R.e] 281).p w0) (hle:R.p≤bs.length):Calls Tryz.prog 178 #[pt g 0] w0 (zAf w0 (nI (bs.length-R.p))):=by
 have hbl:bs.length=m:=by have:=hb.len;simpa [zC] using this
 have hbe:m≤maxLen:=hb.le
 simp only [maxLen] at hbe
 refine zG (F0:=[(0,pt g 0)]) func178 rfl rfl rfl (.c .n) (Mem.nil _) ?_
 refine go 4 [] [0] .n ?_
 intro a w hs
 refine zR [.p [] [],.p [0] [],.p [1] [],.v [2] v,.v [3] (zI (m:Int)),.p [] [],.p [5] [],.p [6] [],.v [7] (nI R.p),.p [8,4] [],.p [9] []] [10] hs .n .n (by kernel_rfl) ⟨λ_ _ _ _ hm hs K=>zZ hs rfl (hm.keep hg (by simp [zO,blk])) .z isAgg28 rfl (vk K),λ_ _ _ _ hm hs K=>zAC hs rfl (hm.rd0 hb).isSl underlying28 rfl (vk K),λ_ _ _ _ hm hs K=>zZ hs rfl (hm.keep hg (by simp [zO,blk])) (.s .z) isAgg3 rfl (vk K),(by omega),⟨rfl,by kernel_rfl,λ_=>rfl,rfl,rfl,trivial⟩,λ_=>rfl,?_⟩
 refine goE 0 [] [2] .n ?_
 intro a w hs;exact fin hs rfl rfl ⟨congrArg (Value.int .i64) (by omega),rfl⟩
theorem zV9 (g:Nat) (v:Value) (m:Nat) (bs:List zN) (R:Rs) (w0:World) (hb:Rd w0 [] v 1 m (zC bs)) (hg:(blk g [v,nI R.p,nI R.e] 281).p w0) (hle:R.p≤bs.length):Calls Tryz.prog 142 #[pt g 0] w0 (zAf w0 (nI (zHZ bs R))):=by
 have hbl:bs.length=m:=by have:=hb.len;simpa [zC] using this
 have hbe:m≤maxLen:=hb.le
 simp only [maxLen] at hbe
 refine zG (F0:=[(0,pt g 0)]) func142 rfl rfl rfl (.c .n) (Mem.nil _) ?_
 refine go 2 [] [4,0] .n ?_
 intro a w hs;refine zB (v:=nI R.e) hs (.c rfl .n) call177 (zHC g _ _ bs R _ (hs.rd0 hb) (hs.mem.keep hg (by simp [zO,blk])) (by omega)) rfl ?_
 refine goL 4 [] [8,3,0] .n ?_
 intro a w hs;refine zY (b:=!((((R.e:Nat):Int):Int)==0)) (λc_1=>?_) (λc_1=>?_)
 ·
  rw [c_1] at hs
  replace c_1:=zFy c_1
  replace c_1:=zAR c_1
  revert a w hs
  refine go 7 [] [2] .n ?_
  intro a w hs;exact fin hs rfl rfl ⟨congrArg (Value.int .i64) (by unfold zHZ;first | rw [if_pos (by omega)] | rw [if_neg (by omega)];rfl),rfl⟩
 rw [c_1] at hs
 replace c_1:=zFv c_1
 replace c_1:=eq_of_beq c_1
 revert a w hs
 refine go 1 [] [9,8,3] .n ?_
 intro a w hs;refine zF hs rfl rfl rfl ?_
 refine zB (v:=nI (bs.length-R.p)) hs (.c rfl .n) call178 (zLM g _ _ bs R _ (hs.rd0 hb) (hs.mem.keep hg (by simp [zO,blk])) (by omega)) rfl ?_
 refine goL 2 [] [12,3] .n ?_
 refine ifG rfl (λc_2=>?_) (λc_2=>?_)
 ·
  refine go 2 [] [2] .n ?_
  intro a w hs;exact fin hs rfl rfl ⟨congrArg (Value.int .i64) (by unfold zHZ;first | rw [if_pos (by omega)] | rw [if_neg (by omega)];rfl),rfl⟩
 refine go 1 [] [2] .n ?_
 intro a w hs;exact fin hs rfl rfl ⟨congrArg (Value.int .i64) (by unfold zHZ;first | rw [if_pos (by omega)] | rw [if_neg (by omega)];rfl),rfl⟩
theorem zWm (v:Value) (m:Nat) (bs:List zN) (w0:World) (hb:Rd w0 [] v 1 m (zC bs)) (h0:0<m):Calls Tryz.prog 203 #[v] w0 (zAf w0 (.tuple #[bI (bs.getD 0 0),.int .i64 1,.int .i64 0])):=by
 have hbl:bs.length=m:=by have:=hb.len;simpa [zC] using this
 have hbe:m≤maxLen:=hb.le
 simp only [maxLen] at hbe
 refine zG (F0:=[(0,v)]) func203 rfl rfl rfl (.c .n) (Mem.nil _) ?_
 refine go 4 [] [5] .n ?_
 intro a w hs;refine zA4 (j:=0) hs rfl rfl (hs.rd0 hb) (by decide) (by omega) underlying28 sizeOf5 rfl ?_
 intro a w hs;refine zB4 hs rfl (hs.rd0 hb) (zB1 bs (by first | omega | (simp;omega))) isAgg5 rfl ?_
 refine goL 3 [] [4,3,2] .n ?_
 intro a w hs;exact zFI hs rfl rfl rfl rfl ⟨rfl,rfl⟩
theorem zVV (v:Value) (m:Nat) (bs:List zN) (gl:Nat) (X:BitVec 64) (w0:World) (hb:Rd w0 [] v 1 m (zC bs)) {tl:TypeId} (hl:(blk gl [.int .u64 (X.toNat:Int)] tl).p w0):Calls Tryz.prog 200 #[v,pt gl 0] w0 (zAf w0 (.tuple #[.int .u64 (((zCi bs).1.toNat:Nat):Int),nI ((zCi bs).2.1),nI (zJZ bs X)])):=by
 have hbl:bs.length=m:=by have:=hb.len;simpa [zC] using this
 have hbe:m≤maxLen:=hb.le
 simp only [maxLen] at hbe
 refine zG (F0:=[(0,v),(1,pt gl 0)]) func200 rfl rfl rfl (.c (.c .n)) (Mem.nil _) ?_
 refine go 4 [] [10,1] .n ?_
 intro a w hs;refine zB (v:=.tuple #[qI ((zCi bs).1),nI ((zCi bs).2.1),nI ((zCi bs).2.2)]) hs (.c rfl .n) call201 (zb4 _ _ bs _ (hs.rd0 hb)) rfl ?_
 refine goL 10 [] [17,8,7,6,1] .n ?_
 intro a w hs;refine zY (b:=((((zCi bs).2.2:Nat):Int):Int)==0) (λc_1=>?_) (λc_1=>?_)
 ·
  rw [c_1] at hs
  replace c_1:=eq_of_beq c_1
  revert a w hs
  refine go 1 [] [18,17,8,7,6,1] .n ?_
  intro a w hs;refine zF hs rfl rfl rfl ?_
  refine zZ hs rfl (hs.mem.keep hl (by simp [zO,blk])) .z isAgg167 rfl ?_
  refine goL 2 [] [21,8,7,6] .n ?_
  refine ifG rfl (λc_2=>?_) (λc_2=>?_)
  ·
   refine go 7 [] [5,4,3] .n ?_
   intro a w hs;exact zFI hs rfl rfl rfl rfl ⟨by unfold zJZ;first | (rw [if_pos (by omega)];rfl) | (rw [if_neg (by omega)]),rfl⟩
  refine go 6 [] [5,4,3] .n ?_
  intro a w hs;exact zFI hs rfl rfl rfl rfl ⟨by unfold zJZ;first | (rw [if_pos (by omega)];rfl) | (rw [if_neg (by omega)]),rfl⟩
 rw [c_1] at hs
 replace c_1:=zAR c_1
 revert a w hs
 refine go 11 [] [5,4,3] .n ?_
 intro a w hs;exact zFI hs rfl rfl rfl rfl ⟨by unfold zJZ;first | (rw [if_pos (by omega)];rfl) | (rw [if_neg (by omega)]),rfl⟩
theorem zVC (g:Nat) (v:Value) (m:Nat) (bs:List zN) (R:Rs) (w0:World) (hb:Rd w0 [g] v 1 m (zC bs)) (hg:(blk g [v,nI R.p,nI R.e] 281).p w0) (hle:R.p≤bs.length):Calls Tryz.prog 202 #[pt g 0,.func (.func 203) #[] #[]] w0 (Ret w0 [g] λu N=>u = .int .u8 (((zH bs R).1.toNat:Nat):Int)∧N=[blk g [v,nI (((zH bs R).2).p),nI (((zH bs R).2).e)] 281]):=by
 have hbl:bs.length=m:=by have:=hb.len;simpa [zC] using this
 have hbe:m≤maxLen:=hb.le
 simp only [maxLen] at hbe
 refine zG (F0:=[(0,pt g 0),(1,.func (.func 203) #[] #[])]) func202 rfl rfl rfl (.c (.c .n)) (zAq hg) ?_
 refine go 3 [] [9,5,0,1] .n ?_
 intro a w hs;refine zB (v:=nI R.e) hs (.c rfl .n) call177 (zHC g _ _ bs R _ (hs.rd0 hb) (hs.mem.del .z) (by omega)) rfl ?_
 refine goL 1 [] [11,5,0,1] .n ?_
 refine ifG rfl (λc_1=>?_) (λc_1=>?_)
 ·
  refine go 2 [] [4] .n ?_
  intro a w hs;exact fin hs rfl rfl (by first | (rw [zDY (by omega)];exact ⟨rfl,rfl⟩) | (rw [zCw (by omega) (by omega)];exact ⟨rfl,rfl⟩) | (have he0:R.e=0:=(by omega);rw [zDO he0 (by omega)];simp [he0,nI]))
 refine go 1 [] [13,5,0,1] .n ?_
 intro a w hs;refine zB (v:=nI (bs.length-R.p)) hs (.c rfl .n) call178 (zLM g _ _ bs R _ (hs.rd0 hb) (hs.mem.del .z) (by omega)) rfl ?_
 refine goL 1 [] [15,5,0,1] .n ?_
 refine ifG rfl (λc_2=>?_) (λc_2=>?_)
 ·
  refine go 6 [0] [4] (.c .z .n) ⟨rfl,?_⟩
  intro a w hs;exact fin hs rfl rfl (by first | (rw [zDY (by omega)];exact ⟨rfl,rfl⟩) | (rw [zCw (by omega) (by omega)];exact ⟨rfl,rfl⟩) | (have he0:R.e=0:=(by omega);rw [zDO he0 (by omega)];simp [he0,nI]))
 refine go 0 [] [5,0,1] .n ?_
 intro a w hs
 refine zR [.p [] [],.p [] [],.p [1] [],.p [2] [],.p [3] [0],.p [] [],.p [5] [],.p [6] [],.p [7] [0],.v [8,4] (zF2 v 1 R.p m),.v [9,0] (.tuple #[bI ((bs.drop R.p).getD 0 0),zI 1,zI 0]),.p [10] [],.p [11] [],.p [11] [],.p [11] [],.p [12] [],.p [13] [],.p [14] []] [15,16,17] hs .n (.c .z .n) (by kernel_rfl) ⟨rfl,rfl,λ_ _ _ _ hm hs K=>zJH (j:=R.p) hs rfl rfl rfl (hm.rd0 hb).isSl (by omega) underlying28 sizeOf5 rfl (vk K),λ_ _ _ _ hm hs K=>zBj (us:=[]) (v:=.tuple #[bI ((bs.drop R.p).getD 0 0),zI 1,zI 0]) hs rfl (.c rfl .n) rfl call203 (zWm _ _ (bs.drop R.p) _ ((hm.rd0 hb).slcL (l:=R.p) (by omega)) (by omega)) rfl (vk K),⟨rfl,by kernel_rfl,λ_=>rfl,rfl,rfl,trivial⟩,λ_=>rfl,?_⟩
 refine goE 14 [0,0] [4] (.c .z .n) ⟨rfl,(by omega),rfl,?_⟩
 intro a w hs;exact fin hs rfl rfl (by first | (rw [zDY (by omega)];exact ⟨rfl,rfl⟩) | (rw [zCw (by omega) (by omega)];exact ⟨rfl,rfl⟩) | (have he0:R.e=0:=(by omega);rw [zDO he0 (by omega)];simp [he0,nI]))
theorem zLI (g:Nat) (v:Value) (m:Nat) (bs:List zN) (R:Rs) (w0:World) (hb:Rd w0 [g] v 1 m (zC bs)) (hg:(blk g [v,nI R.p,nI R.e] 281).p w0) (hle:R.p≤bs.length):Calls Tryz.prog 172 #[pt g 0] w0 (Ret w0 [g] λu N=>u = .int .u8 (((zH bs R).1.toNat:Nat):Int)∧N=[blk g [v,nI (((zH bs R).2).p),nI (((zH bs R).2).e)] 281]):=by
 have hbl:bs.length=m:=by have:=hb.len;simpa [zC] using this
 have hbe:m≤maxLen:=hb.le
 simp only [maxLen] at hbe
 refine zG (F0:=[(0,pt g 0)]) func172 rfl rfl rfl (.c .n) (zAq hg) ?_
 refine go 2 [] [3] .n ?_
 intro a w hs;refine zAc hs (.c rfl (.c rfl .n)) call202 (.c .z .n) (zVC  g _ _ bs R _ (hs.mem.rd1 hb (.c .z .n)) (hs.mem.del .z) (by omega)) rfl ?_
 have hk1:=zDL (bs:=bs) (R:=R) (by omega)
 refine goL 1 [] [2] .n ?_
 intro a w hs;exact fin hs rfl rfl ⟨rfl,rfl⟩
theorem zVg (gl:Nat) (X:BitVec 64) (g:Nat) (v:Value) (m:Nat) (bs:List zN) (R:Rs) (w0:World) (hb:Rd w0 [g] v 1 m (zC bs)) (hg:(blk g [v,nI R.p,nI R.e] 281).p w0) (hle:R.p≤bs.length) {tl:TypeId} (hl:(blk gl [.int .u64 (X.toNat:Int)] tl).p w0) (hgl:gl≠g):Calls Tryz.prog 199 #[pt g 0,.func (.func 200) #[] #[pt gl 0]] w0 (Ret w0 [g] λu N=>u = .int .u64 (((zL bs X R).1.toNat:Nat):Int)∧N=[blk g [v,nI (((zL bs X R).2).p),nI (((zL bs X R).2).e)] 281]):=by
 have hbl:bs.length=m:=by have:=hb.len;simpa [zC] using this
 have hbe:m≤maxLen:=hb.le
 simp only [maxLen] at hbe
 refine zG (F0:=[(0,pt g 0),(1,.func (.func 200) #[] #[pt gl 0])]) func199 rfl rfl rfl (.c (.c .n)) (zAq hg) ?_
 refine go 3 [] [9,5,0,1] .n ?_
 intro a w hs;refine zB (v:=nI R.e) hs (.c rfl .n) call177 (zHC g _ _ bs R _ (hs.rd0 hb) (hs.mem.del .z) (by omega)) rfl ?_
 refine goL 1 [] [11,5,0,1] .n ?_
 refine ifG rfl (λc_1=>?_) (λc_1=>?_)
 ·
  refine go 2 [] [4] .n ?_
  intro a w hs;exact fin hs rfl rfl (by first | (rw [zCY (by omega)];exact ⟨rfl,rfl⟩) | (rw [zCK (by omega) (by omega)];exact ⟨rfl,rfl⟩) | (rw [zDU (by omega) (by omega) (by omega)];exact ⟨rfl,rfl⟩) | (have he0:R.e=0:=(by omega);rw [zCr he0 (by omega) (by omega)];simp [he0,nI]))
 refine go 1 [] [13,5,0,1] .n ?_
 intro a w hs;refine zB (v:=nI (bs.length-R.p)) hs (.c rfl .n) call178 (zLM g _ _ bs R _ (hs.rd0 hb) (hs.mem.del .z) (by omega)) rfl ?_
 refine goL 1 [] [15,5,0,1] .n ?_
 refine ifG rfl (λc_2=>?_) (λc_2=>?_)
 ·
  refine go 6 [0] [4] (.c .z .n) ⟨rfl,?_⟩
  intro a w hs;exact fin hs rfl rfl (by first | (rw [zCY (by omega)];exact ⟨rfl,rfl⟩) | (rw [zCK (by omega) (by omega)];exact ⟨rfl,rfl⟩) | (rw [zDU (by omega) (by omega) (by omega)];exact ⟨rfl,rfl⟩) | (have he0:R.e=0:=(by omega);rw [zCr he0 (by omega) (by omega)];simp [he0,nI]))
 refine go 0 [] [5,0,1] .n ?_
 intro a w hs
 refine zR [.p [] [],.p [] [],.p [1] [],.p [2] [],.p [3] [0],.p [] [],.p [5] [],.p [6] [],.p [7] [0],.v [8,4] (zF2 v 1 R.p m),.v [9,0] (.tuple #[qI ((zCi (bs.drop R.p)).1),nI ((zCi (bs.drop R.p)).2.1),nI (zJZ (bs.drop R.p) X)]),.p [10] [],.p [11] [],.p [11] [],.p [11] [],.p [12] [],.p [13] [],.p [14] []] [15,16,17] hs .n (.c .z .n) (by kernel_rfl) ⟨rfl,rfl,λ_ _ _ _ hm hs K=>zJH (j:=R.p) hs rfl rfl rfl (hm.rd0 hb).isSl (by omega) underlying28 sizeOf5 rfl (vk K),λ_ _ _ _ hm hs K=>zBj (us:=[pt gl 0]) (v:=.tuple #[qI ((zCi (bs.drop R.p)).1),nI ((zCi (bs.drop R.p)).2.1),nI (zJZ (bs.drop R.p) X)]) hs rfl (.c rfl .n) rfl call200 (zVV _ _ (bs.drop R.p) gl X _ ((hm.rd0 hb).slcL (l:=R.p) (by omega)) (hm.keep hl (by simpa [zO,blk] using hgl))) rfl (vk K),⟨rfl,by kernel_rfl,λ_=>rfl,rfl,rfl,trivial⟩,λ_=>rfl,?_⟩
 refine goE 2 [] [36,8,7,6,5,0] .n ?_
 refine ifG rfl (λc_4=>?_) (λc_4=>?_)
 ·
  refine go 7 [0] [4] (.c .z .n) ⟨rfl,?_⟩
  intro a w hs;exact fin hs rfl rfl (by first | (rw [zCY (by omega)];exact ⟨rfl,rfl⟩) | (rw [zCK (by omega) (by omega)];exact ⟨rfl,rfl⟩) | (rw [zDU (by omega) (by omega) (by omega)];exact ⟨rfl,rfl⟩) | (have he0:R.e=0:=(by omega);rw [zCr he0 (by omega) (by omega)];simp [he0,nI]))
 have hul:=@zRY (bs.drop R.p) X
 intro a w hs;rw [List.length_drop] at hul
 have hul2:=hul (by omega)
 revert a w hs
 refine go 11 [0,0] [4] (.c .z .n) ⟨rfl,(by omega),rfl,?_⟩
 intro a w hs;exact fin hs rfl rfl (by first | (rw [zCY (by omega)];exact ⟨rfl,rfl⟩) | (rw [zCK (by omega) (by omega)];exact ⟨rfl,rfl⟩) | (rw [zDU (by omega) (by omega) (by omega)];exact ⟨rfl,rfl⟩) | (have he0:R.e=0:=(by omega);rw [zCr he0 (by omega) (by omega)];simp [he0,nI]))
theorem zEV (X:BitVec 64) (g:Nat) (v:Value) (m:Nat) (bs:List zN) (R:Rs) (w0:World) (hb:Rd w0 [g] v 1 m (zC bs)) (hg:(blk g [v,nI R.p,nI R.e] 281).p w0) (hle:R.p≤bs.length):Calls Tryz.prog 171 #[pt g 0,.int .u64 (X.toNat:Int)] w0 (Ret w0 [g] λu N=>u = .int .u64 (((zL bs X R).1.toNat:Nat):Int)∧N=[blk g [v,nI (((zL bs X R).2).p),nI (((zL bs X R).2).e)] 281]):=by
 have hbl:bs.length=m:=by have:=hb.len;simpa [zC] using this
 have hbe:m≤maxLen:=hb.le
 simp only [maxLen] at hbe
 refine zG (F0:=[(0,pt g 0),(1,qI X)]) func171 rfl rfl rfl (.c (.c .n)) (zAq hg) ?_
 refine go 4 [0] [6,5] .n (λg1=>?_)
 intro a w hs;have hgn:=hs.mem.apart .z (.c .z .n)
 refine zK hs (.c rfl (.c rfl .n)) call199 (.c (.s .z) .n) (zVg g1 X g _ _ bs R _ (hs.mem.rd1 hb (.c (.s .z) .n)) (hs.mem.del (.s .z)) (by omega) (hs.mem.del .z) hgn) rfl ?_;clear hs w a hgn;rintro _ _ a w ⟨rfl,rfl⟩ hs
 revert a w hs
 refine goL 1 [] [4] .n ?_
 refine cl (·.drop (.c (.s .z) .n)) ?_
 intro a w hs;exact fin hs rfl rfl ⟨rfl,rfl⟩
theorem zJR (g:Nat) (v:Value) (m:Nat) (bs:List zN) (R:Rs) (w0:World) (hb:Rd w0 [g] v 1 m (zC bs)) (hg:(blk g [v,nI R.p,nI R.e] 281).p w0) (hle:R.p≤bs.length):Calls Tryz.prog 174 #[pt g 0] w0 (Ret w0 [g] λu N=>u=zI (zAA bs R).1∧N=[blk g [v,nI (((zAA bs R).2).p),nI (((zAA bs R).2).e)] 281]):=by
 have hbl:bs.length=m:=by have:=hb.len;simpa [zC] using this
 have hbe:m≤maxLen:=hb.le
 simp only [maxLen] at hbe
 refine zG (F0:=[(0,pt g 0)]) func174 rfl rfl rfl (.c .n) (zAq hg) ?_
 refine go 2 [] [3] .n ?_
 intro a w hs;refine zAc hs (.c rfl (.c rfl .n)) call171 (.c .z .n) (zEV (18446744073709551615#64) g _ _ bs R _ (hs.mem.rd1 hb (.c .z .n)) (hs.mem.del .z) (by omega)) rfl ?_
 have hk1:=zAl (X:=18446744073709551615#64) (bs:=bs) (R:=R) (by omega)
 intro a w hs;refine zB (v:=zI (zNk ((zL bs (18446744073709551615#64) R).1))) hs (.c rfl .n) call204 (zcK ((zL bs (18446744073709551615#64) R).1) _) rfl ?_
 have:=zE4 ((zL bs (18446744073709551615#64) R).1)
 refine goL 1 [] [2] .n ?_
 intro a w hs;exact fin hs rfl rfl ⟨rfl,rfl⟩
theorem zSL (g:Nat) (v:Value) (m:Nat) (bs:List zN) (R:Rs) (w0:World) (hb:Rd w0 [g] v 1 m (zC bs)) (hg:(blk g [v,nI R.p,nI R.e] 281).p w0) (hle:R.p≤bs.length):Calls Tryz.prog 170 #[pt g 0] w0 (Ret w0 [g] λu N=>u=(.agg #[zI (zAA bs R).1,zI (zAA bs (zAA bs R).2).1,zI (zAA bs (zAA bs (zAA bs R).2).2).1])∧N=[blk g [v,nI ((za3 bs R).p),nI ((za3 bs R).e)] 281]):=by
 have hbl:bs.length=m:=by have:=hb.len;simpa [zC] using this
 have hbe:m≤maxLen:=hb.le
 simp only [maxLen] at hbe
 refine zG (F0:=[(0,pt g 0)]) func170 rfl rfl rfl (.c .n) (zAq hg) ?_
 refine go 3 [] [5,3,2,0] .n (λg1=>λg2=>?_)
 intro a w hs;refine zCo 3 ?_
 revert a w hs
 refine go 6 [] [9,8,5,3,2,0] .n ?_
 intro a w hs;refine zAc hs (.c rfl .n) call174 (.c (.s (.s .z)) .n) (zJR  g _ _ bs R _ (hs.mem.rd1 hb (.c (.s (.s .z)) .n)) (hs.mem.del (.s (.s .z))) (by omega)) rfl ?_
 have hk3:=zDX (bs:=bs) (R:=R) (by omega)
 refine goL 4 [0] [5,3,2,0] (.c (.s .z) .n) ⟨rfl,by decide,?_⟩
 intro a w hs;refine zAT ?_
 revert a w hs
 refine go 6 [] [9,8,5,3,2,0] .n ?_
 intro a w hs;refine zAc hs (.c rfl .n) call174 (.c (.s .z) .n) (zJR  g _ _ bs ((zAA bs R).2) _ (hs.mem.rd1 hb (.c (.s .z) .n)) (hs.mem.del (.s .z)) (by omega)) rfl ?_
 have hk4:=zDX (bs:=bs) (R:=((zAA bs R).2)) (by omega)
 refine goL 4 [0] [5,3,2,0] (.c (.s .z) .n) ⟨rfl,by decide,?_⟩
 intro a w hs;refine zAT ?_
 revert a w hs
 refine go 6 [] [9,8,5,3,2,0] .n ?_
 intro a w hs;refine zAc hs (.c rfl .n) call174 (.c (.s .z) .n) (zJR  g _ _ bs ((zAA bs ((zAA bs R).2)).2) _ (hs.mem.rd1 hb (.c (.s .z) .n)) (hs.mem.del (.s .z)) (by omega)) rfl ?_
 have hk5:=zDX (bs:=bs) (R:=((zAA bs ((zAA bs R).2)).2)) (by omega)
 refine goL 4 [0] [5,3,2,0] (.c (.s .z) .n) ⟨rfl,by decide,?_⟩
 intro a w hs;refine zAT ?_
 revert a w hs
 refine go 4 [0,1] [2] (.c .z (.c (.s .z) .n)) ⟨rfl,rfl,?_⟩
 intro a w hs;exact zM6 hs rfl rfl (.s .z) (.z (.c (.c (.c .n)))) isAgg40 sizeOf40 (.c (.s .z) (.c .z .n)) ⟨rfl,rfl⟩
theorem zDw (e:Nat) (g:Nat) (v:Value) (m:Nat) (bs:List zN) (R:Rs) (w0:World) (hb:Rd w0 [g] v 1 m (zC bs)) (hg:(blk g [v,nI R.p,nI R.e] 281).p w0) (hle:R.p≤bs.length):Calls Tryz.prog 173 #[pt g 0,nI e] w0 (Ret w0 [g] λu N=>u = .tuple #[]∧N=[blk g [v,nI ((zBh e R).p),nI ((zBh e R).e)] 281]):=by
 have hbl:bs.length=m:=by have:=hb.len;simpa [zC] using this
 have hbe:m≤maxLen:=hb.le
 simp only [maxLen] at hbe
 refine zG (F0:=[(0,pt g 0),(1,nI e)]) func173 rfl rfl rfl (.c (.c .n)) (zAq hg) ?_
 refine go 1 [] [4,0,1] .n ?_
 intro a w hs;refine zB (v:=nI R.e) hs (.c rfl .n) call177 (zHC g _ _ bs R _ (hs.rd0 hb) (hs.mem.del .z) (by omega)) rfl ?_
 refine goL 1 [] [6,0,1] .n ?_
 refine ifG rfl (λc_1=>?_) (λc_1=>?_)
 ·
  refine go 5 [0] [] (.c .z .n) ⟨rfl,?_⟩
  intro a w hs;exact zJW hs rfl ⟨rfl,by unfold zBh;first | rw [if_pos (by omega)] | rw [if_neg (by omega)]⟩
 refine go 0 [] [] .n ?_
 intro a w hs;exact zJW hs rfl ⟨rfl,by unfold zBh;first | rw [if_pos (by omega)] | rw [if_neg (by omega)]⟩
theorem zbq (v:Value) (m:Nat) (bs:List zN) (w0:World) (hb:Rd w0 [] v 1 m (zC bs)):Calls Tryz.prog 137 #[v] w0 (Ret w0 [] λu N=>∃ g,u=pt g 0∧N=[blk g [v,nI ((⟨0,0⟩ : Rs).p),nI ((⟨0,0⟩ : Rs).e)] 281]):=by
 have hbl:bs.length=m:=by have:=hb.len;simpa [zC] using this
 have hbe:m≤maxLen:=hb.le
 simp only [maxLen] at hbe
 refine zG (F0:=[(0,v)]) func137 rfl rfl rfl (.c .n) (Mem.nil _) ?_
 refine go 2 [] [3] .n ?_
 intro a w hs;refine zGc (it:=Tryz.t281) (zs:=[.slice none 0 0,zI 0,zI 0]) (places:=[(0,1),(1,1),(2,1)]) hs (.c rfl .n) underlying281 rfl rfl rfl rfl (.c rfl (hs.rd0 hb).isSl.lcells (.z (.c .n)) .n) rfl ?_
 refine goL 2 [0] [2] .n (λg1=>?_)
 intro a w hs;exact fin hs rfl rfl ⟨_,rfl,rfl⟩
end Go.Proofs.YtajjkegcfmhghaaGreat
