import Derived.Test.YtljpfgacpofkpaaGreatQG18
import Derived.Test.YtljpfgacpofkpaaGreatQSxStos
import Derived.Test.YtljpfgacpofkpaaGreatQSxBasB
import Derived.Test.YtljpfgacpofkpaaGreatQSxRecs
import Derived.Test.YtljpfgacpofkpaaGreatQG9
set_option linter.unusedVariables false
set_option linter.unusedSimpArgs false
namespace Go.Proofs.YtljpfgacpofkpaaGreat
open Tryz
open Go Go.Sx Go.RowKit
set_option maxRecDepth 4000
set_option maxHeartbeats 1000000
theorem zKH {v : Value} {l : List RI} {i vb : Nat} {x : RI} {w : World} (hr : (row v 214 4 l.length (l.flatMap riV)).p w) (hb : (blk vb [.int .i64 x.t, .int .i64 x.t, .int .i64 x.tm, x.v] 214).p w) (hnd : (zN [row v 214 4 l.length (l.flatMap riV), blk vb [.int .i64 x.t, .int .i64 x.t, .int .i64 x.tm, x.v] 214]).Nodup) (hi : i ≤ l.length) (hiv : ∀ x ∈ l, zDj x.v x.l.length) (hx : zDj x.v x.l.length) (hn : l.length ≤ 100000) :
   Calls Tryz.prog 131 #[v,nI i,.slice (some ⟨vb,0,none⟩) 1 1] w (Ret w (zN [row v 214 4 l.length (l.flatMap riV),blk vb [.int .i64 x.t,.int .i64 x.t,.int .i64 x.tm,x.v] 214]) λu N=>N=[row u 214 4 (zCN l i x).length ((zCN l i x).flatMap riV)]):=by
 have hvb:vb ∉ zN [row v 214 4 l.length (l.flatMap riV)]:=by
   have:(zN ([row v 214 4 l.length (l.flatMap riV)]++[blk vb [.int .i64 x.t,.int .i64 x.t,.int .i64 x.tm,x.v] 214])).Nodup:=hnd
   rw [zAs] at this
   exact λh=>(List.nodup_append.1 this).2.2 vb h vb (by simp [zN,blk]) rfl
 have h1c:=zOi hiv
 have h1v:=zR6 hx
 have hlen:=zAN zB2 l
 rw [zHh l x hi,← zTK zB2 l i x]
 rcases Nat.eq_or_lt_of_le hi with rfl | hlt
 · refine (zYb hr hb rfl h1v hn).mono λe w' h=>?_
   have e1:(l.flatMap riV).take (l.length*4)=l.flatMap riV:=List.take_of_length_le (by omega)
   have e2:(l.flatMap riV).drop (l.length*4)=[]:=List.drop_eq_nil_of_le (by omega)
   rw [e1,e2,List.append_nil]
   exact zNj h (λk hk=>by rw [zEz];exact List.mem_append.2 (.inl (by simpa [zN] using hk)))
 · obtain ⟨g,cap,sp,rfl,hc,hm,hlc,hl,hg⟩:=zNQ hr (by omega)
   have hgb:vb≠g:=by rintro rfl;exact hvb (by simp [zN,row,Value.ownBlock])
   by_cases hroom:l.length+1≤cap
   · refine (zSh hg hl hlc hm hlt hroom hb hgb rfl h1c h1v hn).mono λe w' h=>?_
     exact zNj h (λk hk=>by rw [zEz];exact List.mem_append.2 (.inl (by simpa [row,Value.ownBlock] using hk)))
   · refine (zVF hg hl hlt hc (by omega) hb rfl h1c h1v hn).mono λe w' h=>?_
     exact zNj h (λk hk=>absurd hk (by simp))
theorem zKb {v : Value} {l : List RI} {w : World} (hr : (row v 214 4 l.length (l.flatMap riV)).p w) (hn2 : 2 ≤ l.length) (hiv : ∀ x ∈ l, zDj x.v x.l.length) (hn : l.length ≤ 100001) :
   Calls Tryz.prog 132 #[v,.int .i64 0,.int .i64 1] w (Ret w (zN [row v 214 4 l.length (l.flatMap riV)]) λu N=>N=[row u 214 4 (l.drop 1).length ((l.drop 1).flatMap riV)]):=by
 obtain ⟨g,cap,sp,rfl,hc,hm,hlc,hl,hg⟩:=zNQ hr (by omega)
 rw [List.length_drop,← (zHj zB2 l 1).2]
 refine (zSv hg hl hlc hm hn2 hc (zOi hiv) hn).mono λe w' h=>?_
 exact zNj h (λk hk=>by simpa [zN,row,Value.ownBlock] using hk)
theorem zQD (x:RI) (hx:zDj x.v x.l.length) (k:Int) (w0:World):Calls Tryz.prog 177 #[.agg #[zI x.t,zI x.t,zI x.tm,x.v],.int .i64 k] w0 (zAh w0 (zI (zMb x.t k))):=by
 obtain ⟨A_,c_,hxv⟩:=hx
 obtain ⟨xt,xtm,xl,xv⟩:=x
 simp only at hxv
 subst hxv
 refine zG (F0:=[(0,.agg #[zI xt,zI xt,zI xtm,.slice A_ xl.length c_]),(1,zI k)]) func177 rfl rfl rfl (.c (.c .n)) (Mem.nil _) ?_
 refine go 7 [0,0] [5,2,1] .n (λg1=>⟨rfl,?_⟩)
 refine ifG rfl (λc_2=>?_) (λc_2=>?_)
 ·
  refine go 1 [] [4] .n ?_
  refine cl (·.drop (.c .z .n)) ?_
  intro a w hs;exact fin hs rfl rfl ⟨congrArg (Value.int .i64) (by show _=zMb xt k;unfold zMb;first | rw [if_pos (by omega)] | (rw [if_neg (by omega),if_pos (by omega)]) | (rw [if_neg (by omega),if_neg (by omega)])),rfl⟩
 refine go 5 [0] [10] (.c .z .n) ⟨rfl,?_⟩
 refine ifG rfl (λc_3=>?_) (λc_3=>?_)
 ·
  refine go 1 [] [4] .n ?_
  refine cl (·.drop (.c .z .n)) ?_
  intro a w hs;exact fin hs rfl rfl ⟨congrArg (Value.int .i64) (by show _=zMb xt k;unfold zMb;first | rw [if_pos (by omega)] | (rw [if_neg (by omega),if_pos (by omega)]) | (rw [if_neg (by omega),if_neg (by omega)])),rfl⟩
 refine go 1 [] [4] .n ?_
 refine cl (·.drop (.c .z .n)) ?_
 intro a w hs;exact fin hs rfl rfl ⟨congrArg (Value.int .i64) (by show _=zMb xt k;unfold zMb;first | rw [if_pos (by omega)] | (rw [if_neg (by omega),if_pos (by omega)]) | (rw [if_neg (by omega),if_neg (by omega)])),rfl⟩
theorem zSo (u:Value) (l:List RI) (k:Int) (w0:World) (hu:Rd w0 [] u 4 l.length (l.flatMap riV)) (hsr:srt (sns l)) (hll:l.length≤100000) (hiv:∀ x∈l,zDj x.v x.l.length):Calls Tryz.prog 176 #[u,.int .i64 k,.func (.func 177) #[] #[]] w0 (zAh w0 (.tuple #[nI (zAz (sns l) k),.bool (zDl (sns l) k)])):=by
 have hsl:=zAO l
 refine zG (F0:=[(0,u),(1,zI k),(2,.func (.func 177) #[] #[])]) func176 rfl rfl rfl (.c (.c (.c .n))) (Mem.nil _) ?_
 refine go 3 [] [12,0,1,2] .n ?_
 intro a w hs;refine zAG hs rfl (hs.rd0 hu).isSl underlying198 rfl ?_
 refine goL 4 [] [10,9,8,0,1,2] .n ?_
 intro a w hs;refine zCC (λmm_ a w=>∃ lo:Nat,∃ hi:Nat,mm_=hi-lo∧St 49 [(0,u),(1,zI k),(2,.func (.func 177) #[] #[]),(8,nI l.length),(9,nI lo),(10,nI hi)] w0 [] [] a w∧lo≤hi∧hi≤l.length∧(∀ t,t<lo→((sns l).getD t default).t<k)∧(∀ t,hi≤t→t<l.length→k≤((sns l).getD t default).t)) ⟨0,l.length,rfl,hs.sub (.c rfl (.c rfl (.c rfl (.c rfl (.c rfl (.c rfl .n)))))),by omega,by omega,(λt ht=>absurd ht (by omega)),(λt ht hl=>absurd hl (by omega))⟩ ?_
 clear hs w a;rintro mm_ a w ⟨lo,hi,rfl,hs,hI1_0,hI1_1,hI1_2,hI1_3⟩
 revert a w hs
 refine go 3 [] [17,0,1,2,8,9,10] .n ?_
 refine ifG rfl (λc_1=>?_) (λc_1=>?_)
 ·
  refine go 3 [] [20,0,1,2,8,9,10] .n ⟨(by omega),?_⟩
  intro a w hs;refine zAg hs rfl underlying3 underlying232 rfl ?_
  intro a w hs;refine zAT (X:=BitVec.ofInt 64 (((lo:Nat):Int)+((hi:Nat):Int))) (m:=1) hs rfl rfl rfl (by decide) rfl ?_
  intro a w hs;refine zAV (X:=(BitVec.ofInt 64 (((lo:Nat):Int)+((hi:Nat):Int)))>>>1) hs rfl rfl underlying232 underlying3 rfl ?_
  refine cl (·.recell (v':=nI ((lo+hi)/2)) (Option.some.inj (congrArg (λz=>some (Value.int .i64 z)) (zVW (by omega))))) ?_
  refine goL 4 [] [26,25,24,11,0,1,2,8,9,10] .n ?_
  intro a w hs;refine zBF (j:=((lo+hi)/2)) hs rfl rfl (hs.rd0 hu) rfl (by omega) underlying198 sizeOf214 rfl ?_
  intro a w hs;refine zAx (cs:=riV (l.getD ((lo+hi)/2) default)) hs rfl (hs.rd0 hu) (zAZ zB2 l ((lo+hi)/2) (by omega)) (by rw [zAN zB2];omega) (by omega) isAgg214 sizeOf214 rfl ?_
  refine goL 1 [] [29,28,24,11,0,1,2,8,9,10] .n ?_
  intro a w hs;refine zAr (us:=[]) (v:=zI (zMb (l.getD ((lo+hi)/2) default).t k)) hs rfl (.c rfl (.c rfl .n)) rfl call177 (zQD (l.getD ((lo+hi)/2) default) (hiv _ (zD1 (by omega))) k _) rfl ?_
  refine zPd 1 1 [] [31,11,0,1,2,8,9,10] .n ?_
  intro a w hs;rw [show decide (zMb (l.getD ((lo+hi)/2) default).t k<0)=decide ((l.getD ((lo+hi)/2) default).t<k) from decide_eq_decide.2 zUK] at hs
  revert a w hs
  refine go 0 [] [31,11,0,1,2,8,9,10] .n ?_
  refine ifG rfl (λc_2=>?_) (λc_2=>?_)
  ·
   have hcm:((l.getD ((lo+hi)/2) default).t<k):=by assumption
   refine go 3 [] [9,0,1,2,8,10] .n ⟨(by omega),?_⟩
   intro a w hs;refine ⟨_,?_,((lo+hi)/2)+1,hi,rfl,hs.sub (.c rfl (.c rfl (.c rfl (.c rfl (.c rfl (.c rfl .n)))))),by omega,by omega,(λt ht=>by have h1:=zWJ hsr (i:=t) (j:=((lo+hi)/2)) (by omega) (by omega);rw [zGm l (i:=((lo+hi)/2)) (by omega)] at h1;have h2:(l.getD ((lo+hi)/2) default).sn.t<k:=hcm;omega),hI1_3⟩
   omega
  have hcm:¬ ((l.getD ((lo+hi)/2) default).t<k):=by assumption
  refine go 2 [] [10,0,1,2,8,9] .n ?_
  intro a w hs;refine ⟨_,?_,lo,((lo+hi)/2),rfl,hs.sub (.c rfl (.c rfl (.c rfl (.c rfl (.c rfl (.c rfl .n)))))),by omega,by omega,hI1_2,(λt ht hl=>by have h1:=zWJ hsr (i:=((lo+hi)/2)) (j:=t) (by omega) (by omega);rw [zGm l (i:=((lo+hi)/2)) (by omega)] at h1;have h2:¬ (l.getD ((lo+hi)/2) default).sn.t<k:=hcm;omega)⟩
  omega
 obtain rfl:lo=hi:=by omega
 have hkp:zAz (sns l) k=lo:=zSS hI1_2 (by rw [hsl];exact hI1_3) (by omega)
 refine go 5 [] [39,35,0,1,2,9] .n ?_
 intro a w hs;refine zX (b:=decide (((lo:Nat):Int)<((l.length:Nat):Int))) (λc_3=>?_) (λc_3=>?_)
 ·
  rw [c_3] at hs
  replace c_3:=of_decide_eq_true c_3
  revert a w hs
  refine go 3 [] [42,41,40,39,35,1] .n ?_
  intro a w hs;refine zC hs rfl rfl rfl ?_
  refine zBF (j:=lo) hs rfl rfl (hs.rd0 hu) rfl (by omega) underlying198 sizeOf214 rfl ?_
  intro a w hs;refine zC hs rfl rfl rfl ?_
  refine zAx (cs:=riV (l.getD lo default)) hs rfl (hs.rd0 hu) (zAZ zB2 l lo (by omega)) (by rw [zAN zB2];omega) (by omega) isAgg214 sizeOf214 rfl ?_
  refine goL 1 [] [45,44,40,39,35] .n ?_
  intro a w hs;refine zC hs rfl rfl rfl ?_
  refine zAr (us:=[]) (v:=zI (zMb (l.getD lo default).t k)) hs rfl (.c rfl (.c rfl .n)) rfl call177 (zQD (l.getD lo default) (hiv _ (zD1 (by omega))) k _) rfl ?_
  refine goL 4 [] [7,6] .n ?_
  have hke:=zXb hsr (k:=k) (by omega)
  intro a w hs;rw [hkp,zGm l (i:=lo) (by omega)] at hke
  exact zBO hs rfl rfl rfl ⟨by rw [hkp,hke];rfl,rfl⟩
 rw [c_3] at hs
 replace c_3:=of_decide_eq_false c_3
 revert a w hs
 refine go 11 [] [7,6] .n ?_
 intro a w hs;exact zBO hs rfl rfl rfl ⟨by rw [zUE hsr (by omega),hkp],rfl⟩
theorem zKN (g:Nat) (u:Value) (l:List RI) (most:Nat) (fl:Int) (gone:Bool) (k:Int) (w0:World) (hu:Rd w0 [] u 4 l.length (l.flatMap riV)) (hg:(blk g [u,nI most,zI fl,.bool (gone)] 200).p w0) (hsr:srt (sns l)) (hll:l.length≤100000) (hiv:∀ x∈l,zDj x.v x.l.length):Calls Tryz.prog 125 #[pt g 0,.int .i64 k] w0 (zAh w0 (.tuple #[nI (zAz (sns l) k),.bool (zDl (sns l) k)])):=by
 have hsl:=zAO l
 have hkl:=zEJ (sns l)
 refine zG (F0:=[(0,pt g 0),(1,zI k)]) func125 rfl rfl rfl (.c (.c .n)) (Mem.nil _) ?_
 refine go 5 [] [8,1] .n ?_
 intro a w hs;refine zAC hs rfl (hs.mem.keep hg (by simp [zN,blk])) .z isAgg198 rfl ?_
 refine goL 1 [] [10,9] .n ?_
 intro a w hs;refine zB (v:=.tuple #[nI (zAz (sns l) k),.bool (zDl (sns l) k)]) hs (.c rfl (.c rfl (.c rfl .n))) call176 (zSo _ l k _ (hs.rd0 hu) hsr hll hiv) rfl ?_
 refine goL 4 [] [5,4] .n ?_
 intro a w hs;exact zBO hs rfl rfl rfl ⟨rfl,rfl⟩
theorem zGz (g:Nat) (u:Value) (l:List RI) (most:Nat) (fl:Int) (gone:Bool) (k:Int) (w0:World) (hu:Rd w0 [] u 4 l.length (l.flatMap riV)) (hg:(blk g [u,nI most,zI fl,.bool (gone)] 200).p w0) (hsr:srt (sns l)) (hll:l.length≤100000) (hiv:∀ x∈l,zDj x.v x.l.length):Calls Tryz.prog 87 #[pt g 0,.int .i64 k] w0 (zAh w0 (.tuple #[.agg #[zI ((zAd l k).t),zI ((zAd l k).tm),(zAd l k).v],.bool (zDl (sns l) k)])):=by
 have hsl:=zAO l
 have hkl:=zEJ (sns l)
 refine zG (F0:=[(0,pt g 0),(1,zI k)]) func87 rfl rfl rfl (.c (.c .n)) (Mem.nil _) ?_
 refine go 7 [] [12,11,4,0] .n (λg1=>?_)
 intro a w hs;refine zB (v:=.tuple #[nI (zAz (sns l) k),.bool (zDl (sns l) k)]) hs (.c rfl (.c rfl .n)) call125 (zKN g _ l most fl gone k _ (hs.rd0 hu) (hs.mem.keep hg (by simp [zN,blk])) hsr hll hiv) rfl ?_
 refine goL 6 [] [16,5,6,4,0] .n ?_
 refine ifG rfl (λc_2=>?_) (λc_2=>?_)
 ·
  have hh_:zDl (sns l) k=true:=by assumption
  have hkb:=((zEC hsr).1 hh_).1
  have hrg:zAd l k=l.getD (zAz (sns l) k) default:=if_pos hh_
  refine go 3 [] [19,5,6,4] .n ?_
  intro a w hs;refine zAC hs rfl (hs.mem.keep hg (by simp [zN,blk])) .z isAgg198 rfl ?_
  refine goL 1 [] [21,20,5,4] .n ?_
  intro a w hs;refine zBF (j:=zAz (sns l) k) hs rfl rfl (hs.rd0 hu) rfl (by omega) underlying198 sizeOf214 rfl ?_
  intro a w hs;refine zEU hs rfl (hs.rd0 hu) (by omega) underlying214 rfl sizeOf46 (by decide) (o:=(zAz (sns l) k)*4+1) rfl rfl ?_
  intro a w hs;refine zAx (cs:=[zI ((l.getD (zAz (sns l) k) default).t),zI ((l.getD (zAz (sns l) k) default).tm),(l.getD (zAz (sns l) k) default).v]) hs rfl (hs.rd0 hu) ((zLB zB2 l (zAz (sns l) k) 1 3 (by omega)).trans rfl) (by rw [zAN zB2];omega) (by omega) isAgg46 sizeOf46 rfl ?_
  refine goL 5 [50,0,50] [5,4] (.c .z .n) ⟨rfl,(zF rfl (zF rfl (zF (hiv _ (zD1 (by omega))).one zAX))),rfl,rfl,(zF rfl (zF rfl (zF (hiv _ (zD1 (by omega))).one zAX))),?_⟩
  intro a w hs;exact zBM hs rfl rfl rfl .z (.z (.c (.c (.c .n)))) isAgg46 sizeOf46 (.c .z .n) ⟨by rw [hrg]<;>rfl,rfl⟩
 have hh_:zDl (sns l) k=false:=by assumption
 have hrg:zAd l k=default:=if_neg (by rw [hh_];simp)
 refine go 4 [0,0] [5,4] (.c .z .n) ⟨rfl,rfl,?_⟩
 intro a w hs;exact zBM hs rfl rfl rfl .z (.z (.c (.c (.c .n)))) isAgg46 sizeOf46 (.c .z .n) ⟨by rw [hrg]<;>rfl,rfl⟩
theorem zIC (g:Nat) (u:Value) (l:List RI) (most:Nat) (fl:Int) (gone:Bool) (i:Int) (w0:World) (hu:Rd w0 [] u 4 l.length (l.flatMap riV)) (hg:(blk g [u,nI most,zI fl,.bool (gone)] 200).p w0) (hsr:srt (sns l)) (hll:l.length≤100000) (hiv:∀ x∈l,zDj x.v x.l.length):Calls Tryz.prog 124 #[pt g 0,.int .i64 i] w0 (zAh w0 (.tuple #[zI (rat l i).t,.agg #[zI ((rat l i).t),zI ((rat l i).tm),(rat l i).v],nI (zLN (sns l) i)])):=by
 have hsl:=zAO l
 have hkl:=zEJ (sns l)
 refine zG (F0:=[(0,pt g 0),(1,zI i)]) func124 rfl rfl rfl (.c (.c .n)) (Mem.nil _) ?_
 refine go 11 [] [15,7,5,0,1] .n (λg1=>λg2=>?_)
 intro a w hs;refine zX (b:=decide (i<0)) (λc_3=>?_) (λc_3=>?_)
 ·
  rw [c_3] at hs
  replace c_3:=of_decide_eq_true c_3
  revert a w hs
  refine go 10 [] [7,5] .n ?_
  intro a w hs
  refine zO [.p [] [0],.p [] [],.s [0] [0] [0] [],.p [] []] [1,3] hs (.c (.s .z) .n) (.c .z .n) (by kernel_rfl) ⟨rfl,rfl,⟨rfl,by kernel_rfl,λ_=>rfl,rfl,rfl,trivial⟩,λ_=>rfl,?_⟩
  refine goE 0 [] [6,4,5] .n ?_
  intro a w hs;exact zXH hs rfl rfl rfl rfl (.s .z) (.z (.c (.c (.c .n)))) isAgg46 sizeOf46 (.c (.s .z) (.c .z .n)) ⟨by first | (rw [show rat l i=default from if_neg (by omega),show zLN (sns l) i=3 from if_neg (by rw [zAO];omega)]<;>rfl) | (rw [show rat l i=l.getD i.toNat default from if_pos ⟨by omega,by omega⟩,show zLN (sns l) i=0 from if_pos ⟨by omega,by rw [zAO];omega⟩]<;>rfl),rfl⟩
 rw [c_3] at hs
 replace c_3:=of_decide_eq_false c_3
 revert a w hs
 refine go 4 [] [19,16,15,7,5,0,1] .n ?_
 intro a w hs;refine zC hs rfl rfl rfl ?_
 refine zAC hs rfl (hs.mem.keep hg (by simp [zN,blk])) .z isAgg198 rfl ?_
 intro a w hs;refine zC hs rfl rfl rfl ?_
 refine zAG hs rfl (hs.rd0 hu).isSl underlying198 rfl ?_
 refine goL 3 [] [12,7,5,0,1] .n ?_
 refine ifG rfl (λc_5=>?_) (λc_5=>?_)
 ·
  refine go 0 [] [7,5] .n ?_
  intro a w hs
  refine zO [.p [] [0],.p [] [],.s [0] [0] [0] [],.p [] []] [1,3] hs (.c (.s .z) .n) (.c .z .n) (by kernel_rfl) ⟨rfl,rfl,⟨rfl,by kernel_rfl,λ_=>rfl,rfl,rfl,trivial⟩,λ_=>rfl,?_⟩
  refine goE 0 [] [6,4,5] .n ?_
  intro a w hs;exact zXH hs rfl rfl rfl rfl (.s .z) (.z (.c (.c (.c .n)))) isAgg46 sizeOf46 (.c (.s .z) (.c .z .n)) ⟨by first | (rw [show rat l i=default from if_neg (by omega),show zLN (sns l) i=3 from if_neg (by rw [zAO];omega)]<;>rfl) | (rw [show rat l i=l.getD i.toNat default from if_pos ⟨by omega,by omega⟩,show zLN (sns l) i=0 from if_pos ⟨by omega,by rw [zAO];omega⟩]<;>rfl),rfl⟩
 refine go 0 [] [5,0,1] .n ?_
 intro a w hs
 refine zO [.p [] [],.p [0] [],.p [1] [],.v [2] u,.p [] [],.v [4,3] (.pointer (some (adr u (((i).toNat)*4)))),.v [5] (.pointer (some (adr u (((i).toNat)*4+0)))),.v [6] (zI ((l.getD ((i).toNat) default).t)),.p [] [],.p [8] [],.p [9] [],.v [10] u,.p [] [],.v [12,11] (.pointer (some (adr u (((i).toNat)*4)))),.v [13] (.pointer (some (adr u (((i).toNat)*4+1)))),.v [14] (.agg #[zI ((l.getD ((i).toNat) default).t),zI ((l.getD ((i).toNat) default).tm),(l.getD ((i).toNat) default).v]),.p [7] [],.s [15] [50] [0] [],.p [] []] [16,18] hs (.c (.s .z) .n) .n (by kernel_rfl) ⟨λ_ _ _ _ hm hs K=>zAC hs rfl (hm.keep hg (by simp [zN,blk])) .z isAgg198 rfl (vk K),λ_ _ _ _ hm hs K=>zBF (j:=(i).toNat) hs rfl rfl (hm.rd0 hu) (by omega) (by omega) underlying198 sizeOf214 rfl (vk K),λ_ _ _ _ hm hs K=>zEU hs rfl (hm.rd0 hu) (by omega) underlying214 rfl sizeOf2 (by decide) (o:=((i).toNat)*4+0) rfl rfl (vk K),λ_ _ _ _ hm hs K=>zBf (u:=zI ((l.getD ((i).toNat) default).t)) hs rfl (hm.rd0 hu) ((zBt zB2 l ((i).toNat) 0 (by omega) (by decide)).trans rfl) isAgg2 rfl (vk K),λ_ _ _ _ hm hs K=>zAC hs rfl (hm.keep hg (by simp [zN,blk])) .z isAgg198 rfl (vk K),λ_ _ _ _ hm hs K=>zBF (j:=(i).toNat) hs rfl rfl (hm.rd0 hu) (by omega) (by omega) underlying198 sizeOf214 rfl (vk K),λ_ _ _ _ hm hs K=>zEU hs rfl (hm.rd0 hu) (by omega) underlying214 rfl sizeOf46 (by decide) (o:=((i).toNat)*4+1) rfl rfl (vk K),λ_ _ _ _ hm hs K=>zAx (cs:=[zI ((l.getD ((i).toNat) default).t),zI ((l.getD ((i).toNat) default).tm),(l.getD ((i).toNat) default).v]) hs rfl (hm.rd0 hu) ((zLB zB2 l ((i).toNat) 1 3 (by omega)).trans rfl) (by rw [zAN zB2];omega) (by omega) isAgg46 sizeOf46 rfl (vk K),rfl,(zF rfl (zF rfl (zF (hiv _ (zD1 (by omega))).one zAX))),⟨rfl,by kernel_rfl,λ_=>rfl,rfl,rfl,trivial⟩,λ_=>rfl,?_⟩
 refine goE 0 [] [6,4,5] .n ?_
 intro a w hs;exact zXH hs rfl rfl rfl rfl (.s .z) (.z (.c (.c (.c .n)))) isAgg46 sizeOf46 (.c (.s .z) (.c .z .n)) ⟨by first | (rw [show rat l i=default from if_neg (by omega),show zLN (sns l) i=3 from if_neg (by rw [zAO];omega)]<;>rfl) | (rw [show rat l i=l.getD i.toNat default from if_pos ⟨by omega,by omega⟩,show zLN (sns l) i=0 from if_pos ⟨by omega,by rw [zAO];omega⟩]<;>rfl),rfl⟩
theorem zEq (g:Nat) (u:Value) (l:List RI) (most:Nat) (fl:Int) (gone:Bool) (k:Int) (w0:World) (hu:Rd w0 [] u 4 l.length (l.flatMap riV)) (hg:(blk g [u,nI most,zI fl,.bool (gone)] 200).p w0) (hsr:srt (sns l)) (hll:l.length≤100000) (hiv:∀ x∈l,zDj x.v x.l.length):Calls Tryz.prog 186 #[pt g 0,.int .i64 k] w0 (zAh w0 (nI (zAF (sns l) k))):=by
 have hsl:=zAO l
 have hkl:=zEJ (sns l)
 refine zG (F0:=[(0,pt g 0),(1,zI k)]) func186 rfl rfl rfl (.c (.c .n)) (Mem.nil _) ?_
 refine go 6 [] [11,10] .n ?_
 intro a w hs;refine zB (v:=.tuple #[nI (zAz (sns l) k),.bool (zDl (sns l) k)]) hs (.c rfl (.c rfl .n)) call125 (zKN g _ l most fl gone k _ (hs.rd0 hu) (hs.mem.keep hg (by simp [zN,blk])) hsr hll hiv) rfl ?_
 refine goL 6 [] [15,5] .n ?_
 refine ifG rfl (λc_1=>?_) (λc_1=>?_)
 ·
  have hku:zAF (sns l) k=zAz (sns l) k+1:=by unfold zAF;rw [if_pos (by assumption)]
  have hkl:=hkl k
  refine go 5 [] [4] .n ⟨(by omega),?_⟩
  intro a w hs;exact fin hs rfl rfl ⟨by rw [hku]<;>rfl,rfl⟩
 have hh_:zDl (sns l) k=false:=by assumption
 have hku:zAF (sns l) k=zAz (sns l) k:=by unfold zAF;rw [if_neg (by rw [hh_];simp)];rfl
 refine go 2 [] [4] .n ?_
 intro a w hs;exact fin hs rfl rfl ⟨by rw [hku]<;>rfl,rfl⟩
theorem zCf (g:Nat) (u:Value) (l:List RI) (most:Nat) (fl:Int) (gone:Bool) (w0:World) (hu:Rd w0 [] u 4 l.length (l.flatMap riV)) (hg:(blk g [u,nI most,zI fl,.bool (gone)] 200).p w0) (hsr:srt (sns l)) (hll:l.length≤100000) (hiv:∀ x∈l,zDj x.v x.l.length):Calls Tryz.prog 123 #[pt g 0] w0 (zAh w0 (nI l.length)):=by
 have hsl:=zAO l
 have hkl:=zEJ (sns l)
 refine zG (F0:=[(0,pt g 0)]) func123 rfl rfl rfl (.c .n) (Mem.nil _) ?_
 refine go 7 [] [7] .n ?_
 intro a w hs;refine zAC hs rfl (hs.mem.keep hg (by simp [zN,blk])) .z isAgg198 rfl ?_
 intro a w hs;refine zAG hs rfl (hs.rd0 hu).isSl underlying198 rfl ?_
 refine goL 1 [] [2] .n ?_
 intro a w hs;exact fin hs rfl rfl ⟨rfl,rfl⟩
theorem zS6 (g:Nat) (u:Value) (l:List RI) (most:Nat) (fl:Int) (gone:Bool) (w0:World) (hg:(blk g [u,nI most,zI fl,.bool (gone)] 200).p w0):Calls Tryz.prog 185 #[pt g 0] w0 (zAh w0 (.tuple #[.int .i64 fl,.bool gone])):=by
 refine zG (F0:=[(0,pt g 0)]) func185 rfl rfl rfl (.c .n) (Mem.nil _) ?_
 refine go 5 [] [0] .n ?_
 intro a w hs
 refine zO [.p [] [],.p [0] [],.p [1] [],.v [2] (zI fl),.p [] [],.p [4] [],.p [5] [],.v [6] (.bool (gone)),.p [3] [],.p [7] []] [8,9] hs .n .n (by kernel_rfl) ⟨λ_ _ _ _ hm hs K=>zAC hs rfl (hm.keep hg (by simp [zN,blk])) (.s (.s .z)) isAgg2 rfl (vk K),λ_ _ _ _ hm hs K=>zAC hs rfl (hm.keep hg (by simp [zN,blk])) (.s (.s (.s .z))) isAgg4 rfl (vk K),⟨rfl,by kernel_rfl,λ_=>rfl,rfl,rfl,trivial⟩,λ_=>rfl,?_⟩
 refine goE 0 [] [3,2] .n ?_
 intro a w hs;exact zBO hs rfl rfl rfl ⟨rfl,rfl⟩
theorem zOy (g:Nat) (u:Value) (l:List RI) (most:Nat) (fl:Int) (gone:Bool) (x:RI) (w0:World) (hr:(row u 214 4 l.length (l.flatMap riV)).p w0) (hg:(blk g [u,nI most,zI fl,.bool (gone)] 200).p w0) (hnd:(zN [row u 214 4 l.length (l.flatMap riV),blk g [u,nI most,zI fl,.bool (gone)] 200]).Nodup) (hsr:srt (sns l)) (hll:l.length≤most) (hmo:most≤64) (hm1:1≤most) (hiv:∀ x∈l,zDj x.v x.l.length) (hxs:zDj x.v x.l.length) (hk:zDl (sns l) x.t=false) (hst:¬ (gone=true∧x.t≤fl)) (hz:¬ (zAz (sns l) x.t=0∧l.length=most)):Calls Tryz.prog 90 #[pt g 0,.int .i64 x.t,.agg #[zI x.t,zI x.tm,x.v]] w0 (Ret w0 (zN [row u 214 4 l.length (l.flatMap riV),blk g [u,nI most,zI fl,.bool (gone)] 200]) λz N=>∃ u',z = .tuple #[zI (zHX l most x),.bool (zHd l most x),.int .i64 0]∧N=[blk g [u',nI most,zI (zIp l most fl x),.bool (zIm l most gone x)] 200,row u' 214 4 ((zGZ l most x).length) ((zGZ l most x).flatMap riV)]):=by
 have hkl:=zEJ (sns l) x.t
 rw [zAO] at hkl
 have hK:=zHh l x hkl
 have hiK:=zUb hiv hxs (zAz (sns l) x.t)
 refine zG (F0:=[(0,pt g 0),(1,zI x.t),(2,.agg #[zI x.t,zI x.tm,x.v])]) func90 rfl rfl rfl (.c (.c (.c .n))) (zEM hr hg hnd) ?_
 refine go 9 [0] [15,14,5,0,1] .n (λg1=>?_)
 intro a w hs;refine zB (v:=.tuple #[nI (zAz (sns l) x.t),.bool (zDl (sns l) x.t)]) hs (.c rfl (.c rfl .n)) call125 (zKN g _ l most fl gone x.t _ (zK (hs.mem.del (.s .z))) (hs.mem.del (.s (.s .z))) hsr (by omega) hiv) rfl ?_
 refine zPd 13 7 [] [19,9,5,0,1] .n ?_
 have hb_:(zDl (sns l) x.t)=false:=by exact hk
 intro a w hs;rw [hb_] at hs;clear hb_
 revert a w hs
 refine go 5 [0] [25,9,5,0,1] (.c (.s (.s .z)) .n) ⟨rfl,?_⟩
 refine cl (·.recell (v':=.bool (id gone)) (Option.some.inj rfl)) ?_
 refine go 1 [] [26,9,5,0,1] .n ?_
 intro a w hs;refine zX (b:=id gone) (λc_2=>?_) (λc_2=>?_)
 ·
  rw [c_2] at hs
  revert a w hs
  refine go 6 [0] [32,26,9,5,0,1] (.c .z .n) ⟨rfl,?_⟩
  have hb_:(decide (x.t≤fl))=false:=decide_eq_false (λh=>hst ⟨(by assumption:id gone=true),h⟩)
  intro a w hs;rw [hb_] at hs;clear hb_
  revert a w hs
  refine go 3 [] [9,5,0,1] .n ?_
  by_cases kz:zAz (sns l) x.t=0
  ·
   intro a w hs
   refine zO [.p [] [],.v [0] (.bool (true)),.p [1] [],.p [2] [],.p [3,2] [],.p [4,2] [],.p [5,2] [0],.v [6,2] (nI l.length),.p [2] [],.p [8,2] [],.p [9,2] [],.p [10,2] [0],.v [11,7,2] (.bool (false)),.p [12,2] [],.p [13] []] [14] hs .n (.c .z .n) (by kernel_rfl) ⟨λ_ _ _ _ hm hs K=>zCp hs rfl rfl rfl (λa w hs=>wpList_nil (K _ _ (by rw [show ((((zAz (sns l) x.t:Nat):Int):Int)==0)=true from by rw [beq_iff_eq];omega] at hs;exact hs))),rfl,λ_ _ _ _ hm hs K=>zC hs rfl rfl rfl (zAG hs rfl (zK (hm.del (.s (.s .z)))).isSl underlying198 rfl (vk K)),rfl,λ_ _ _ _ hm hs K=>zC hs rfl rfl rfl (zCp hs rfl rfl rfl (λa w hs=>wpList_nil (K _ _ (by rw [show ((((l.length:Nat):Int):Int)==((most:Nat):Int))=false from by rw [beq_eq_false_iff_ne];intro h;exact hz ⟨by omega,by omega⟩] at hs;exact hs)))),⟨rfl,by kernel_rfl,λ_=>rfl,rfl,rfl,trivial⟩,λ_=>rfl,?_⟩
   refine goE 1 [] [9,5,0,1] .n ?_
   intro a w hs
   refine zAQ [.p [] [],.p [] [],.p [1] [],.p [2] [],.y [3] u [] [] [] λvs4=>[],.p [] [],.p [] [],.p [] [0],.p [7,6] [],.x [8] ⟨[],[],[],λvs4=>vs4 9 = .slice (some ⟨(zBj (vs4 9)),0,none⟩) 1 1,λvs4=>[blk (zBj (vs4 9)) [zI x.t,zI x.t,zI x.tm,x.v] 214],none⟩,.x [5,4] ⟨[row u 214 4 l.length (l.flatMap riV)],[9],[],λvs4=>True,λvs4=>[row (vs4 10) 214 4 ((zCN l (zAz (sns l) x.t) x).length) ((zCN l (zAz (sns l) x.t) x).flatMap riV)],none⟩,.p [0] [],.p [11] [],.x [12] ⟨[blk g [u,nI most,zI fl,.bool (gone)] 200],[],[10],λvs4=>True,λvs4=>[blk g [(vs4 10),nI most,zI fl,.bool (gone)] 200],none⟩] [] hs .n (.c (.s (.s .z)) (.c .z .n)) (.c .z .n) (by kernel_rfl) ⟨rfl,⟨(.c .z (.c .z .n)),by kernel_rfl,λ_=>rfl,rfl,rfl⟩,⟨?_,?_,?_,?_,trivial⟩,?_⟩
   ·
    intro a_ w_ R_ rest_ vs4 hm hs ht hx
    have hs0:=hs.bare
    refine zAC hs rfl (hm.own (List.mem_append.2 (.inr ((hx 13 (zJ 14 _ (by kernel_rfl))).1 _ (List.Mem.head _))))) .z isAgg198 rfl ?_;clear hs;intro a w hs
    exact wpList_nil ⟨rfl,_,_,hs0,(.c .r),hs,rfl⟩
   ·
    intro a_ w_ R_ rest_ vs4 hm hs ht hx
    have hs0:=hs.bare
    refine zHt (cs:=[zI x.t,zI x.t,zI x.tm,x.v]) hs (.c .n) (.c rfl .n) underlying198 (ie:=Tryz.t214) rfl rfl rfl rfl (by decide) (by decide) rfl (by decide) rfl rfl rfl ?_;clear hs;intro g5 a w hs
    exact wpList_nil ⟨rfl,_,_,hs0,(.c .r),hs,rfl⟩
   ·
    intro a_ w_ R_ rest_ vs4 hm hs ht hx
    have t9:=ht 9 (zJ 14 _ (by kernel_rfl))
    have e9:_=some (vs4 9):=t9.val rfl
    rw [show vs4 9 = .slice (some ⟨(zBj (vs4 9)),0,none⟩) 1 1 from t9.2.1] at e9
    replace hs:=hs.learn e9
    have hs0:=hs.bare
    refine zL hs (.c rfl (.c rfl (.c rfl .n))) call131 (.c .z (.c .z .n)) (zKH (x:=x) (hs.mem.del .z) (hs.mem.del (.s .z)) (hs.mem.ndX (.c .z (.c .z .n))) (by omega) hiv hxs (by omega)) rfl ?_;clear hs;rintro v6 _ a w rfl hs
    exact wpList_nil ⟨rfl,_,_,hs0,(.c (.c (.c .r))),hs,trivial⟩
   ·
    intro a_ w_ R_ rest_ vs4 hm hs ht hx
    have t10:=ht 10 (zJ 14 _ (by kernel_rfl))
    have e10:_=some (vs4 10):=t10.val rfl
    replace hs:=hs.learn e10
    have hs0:=hs.bare
    refine zBh hs rfl rfl .z .z (zK (hm.own (List.mem_append.2 (.inr ((ht 10 (zJ 14 _ (by kernel_rfl))).2.2 (zHo (n:=14) (by kernel_rfl)) _ (List.Mem.head _)))))).isSl.one sizeOf198 ?_;clear hs;intro a w hs
    exact wpList_nil ⟨rfl,.tuple #[],_,hs0,(.c (.c .r)),hs,trivial⟩
   clear hs w a;intro vs4 a w hs hf
   generalize vs4 10=v7 at hs
   clear hf
   revert a w hs
   refine goE 0 [] [0] .n ?_
   intro a w hs
   refine zO [.p [] [],.p [0] [],.p [1] [],.p [2] [0],.v [3] (nI ((zCN l (zAz (sns l) x.t) x).length)),.p [] [],.p [5] [],.p [6] [],.p [7] [0],.p [8,4] []] [9] hs .n (.c (.s (.s .z)) .n) (by kernel_rfl) ⟨rfl,λ_ _ _ _ hm hs K=>zAG hs rfl (zK (hm.del (.s .z))).isSl underlying198 rfl (vk K),rfl,⟨rfl,by kernel_rfl,λ_=>rfl,rfl,rfl,trivial⟩,λ_=>rfl,?_⟩
   refine goE 0 [] [70,0] .n ?_
   refine ifG rfl (λc_9=>?_) (λc_9=>?_)
   ·
    refine go 3 [] [8,7,6] .n ?_
    refine cl (·.drop (.c .z .n)) ?_
    refine cl (·.reorder (.c (.s .z) (.c .z .n))) ?_
    intro a w hs;first | exact zFO hs rfl rfl rfl rfl ⟨_,by unfold zHX zHd;rw [if_pos (by omega),if_pos (by omega)],by unfold zGZ zIp zIm;rw [if_pos (by omega),if_pos (by omega),if_pos (by omega)]⟩ | exact zFO hs rfl rfl rfl rfl ⟨_,by unfold zHX zHd;rw [if_neg (by omega),if_neg (by omega)],by unfold zGZ zIp zIm;rw [if_neg (by omega),if_neg (by omega),if_neg (by omega)]⟩
   refine go 6 [0] [76,72,71,0] (.c (.s (.s .z)) .n) ⟨rfl,?_⟩
   intro a w hs;refine zBF (j:=0) hs rfl rfl (zK (hs.mem.del (.s (.s .z)))) (by decide) (by omega) underlying198 sizeOf214 rfl ?_
   intro a w hs;refine zEU hs rfl (zK (hs.mem.del (.s (.s .z)))) (by omega) underlying214 rfl sizeOf2 (by decide) (o:=0*4+0) rfl rfl ?_
   intro a w hs;refine zBf (u:=zI (((zCN l (zAz (sns l) x.t) x).getD 0 default).t)) hs rfl (zK (hs.mem.del (.s (.s .z)))) ((zBt zB2 (zCN l (zAz (sns l) x.t) x) 0 0 (by omega) (by decide)).trans rfl) isAgg2 rfl ?_
   refine goL 11 [0,0,0] [88,84,0] (.c .z .n) ⟨rfl,rfl,rfl,?_⟩
   intro a w hs;refine zL hs (.c rfl (.c rfl (.c rfl .n))) call132 (.c (.s (.s .z)) .n) (zKb (hs.mem.del (.s (.s .z))) (by omega) hiK (by omega)) rfl ?_;clear hs w a;rintro v10 _ a w rfl hs
   revert a w hs
   refine goL 2 [] [91,89,0] .n ?_
   intro a w hs;refine zBh hs rfl rfl (.s .z) .z (zK (hs.mem.del .z)).isSl.one sizeOf198 ?_
   refine goL 7 [0] [8,7,6] (.c .z .n) ⟨rfl,?_⟩
   refine cl (·.drop (.c (.s (.s .z)) .n)) ?_
   intro a w hs;first | exact zFO hs rfl rfl rfl rfl ⟨_,by unfold zHX zHd;rw [if_pos (by omega),if_pos (by omega)],by unfold zGZ zIp zIm;rw [if_pos (by omega),if_pos (by omega),if_pos (by omega)]⟩ | exact zFO hs rfl rfl rfl rfl ⟨_,by unfold zHX zHd;rw [if_neg (by omega),if_neg (by omega)],by unfold zGZ zIp zIm;rw [if_neg (by omega),if_neg (by omega),if_neg (by omega)]⟩
  intro a w hs
  refine zO [.p [] [],.v [0] (.bool (false)),.p [1] [],.p [2] [],.p [3,2] [],.p [4,2] [],.p [5,2] [],.p [6,2] [],.p [2] [],.p [8,2] [],.p [9,2] [],.p [10,2] [],.v [11,7,2] undef,.p [12,2] [],.p [13] []] [14] hs .n .n (by kernel_rfl) ⟨λ_ _ _ _ hm hs K=>zCp hs rfl rfl rfl (λa w hs=>wpList_nil (K _ _ (by rw [show ((((zAz (sns l) x.t:Nat):Int):Int)==0)=false from by rw [beq_eq_false_iff_ne];omega] at hs;exact hs))),λ_ _ _ _ hm hs K=>zCV hs rfl rfl rfl rfl rfl (vk K),⟨rfl,by kernel_rfl,λ_=>rfl,rfl,rfl,trivial⟩,λ_=>rfl,?_⟩
  refine goE 1 [] [9,5,0,1] .n ?_
  intro a w hs
  refine zAQ [.p [] [],.p [] [],.p [1] [],.p [2] [],.y [3] u [] [] [] λvs12=>[],.p [] [],.p [] [],.p [] [0],.p [7,6] [],.x [8] ⟨[],[],[],λvs12=>vs12 9 = .slice (some ⟨(zBj (vs12 9)),0,none⟩) 1 1,λvs12=>[blk (zBj (vs12 9)) [zI x.t,zI x.t,zI x.tm,x.v] 214],none⟩,.x [5,4] ⟨[row u 214 4 l.length (l.flatMap riV)],[9],[],λvs12=>True,λvs12=>[row (vs12 10) 214 4 ((zCN l (zAz (sns l) x.t) x).length) ((zCN l (zAz (sns l) x.t) x).flatMap riV)],none⟩,.p [0] [],.p [11] [],.x [12] ⟨[blk g [u,nI most,zI fl,.bool (gone)] 200],[],[10],λvs12=>True,λvs12=>[blk g [(vs12 10),nI most,zI fl,.bool (gone)] 200],none⟩] [] hs .n (.c (.s (.s .z)) (.c .z .n)) (.c .z .n) (by kernel_rfl) ⟨rfl,⟨(.c .z (.c .z .n)),by kernel_rfl,λ_=>rfl,rfl,rfl⟩,⟨?_,?_,?_,?_,trivial⟩,?_⟩
  ·
   intro a_ w_ R_ rest_ vs12 hm hs ht hx
   have hs0:=hs.bare
   refine zAC hs rfl (hm.own (List.mem_append.2 (.inr ((hx 13 (zJ 14 _ (by kernel_rfl))).1 _ (List.Mem.head _))))) .z isAgg198 rfl ?_;clear hs;intro a w hs
   exact wpList_nil ⟨rfl,_,_,hs0,(.c .r),hs,rfl⟩
  ·
   intro a_ w_ R_ rest_ vs12 hm hs ht hx
   have hs0:=hs.bare
   refine zHt (cs:=[zI x.t,zI x.t,zI x.tm,x.v]) hs (.c .n) (.c rfl .n) underlying198 (ie:=Tryz.t214) rfl rfl rfl rfl (by decide) (by decide) rfl (by decide) rfl rfl rfl ?_;clear hs;intro g13 a w hs
   exact wpList_nil ⟨rfl,_,_,hs0,(.c .r),hs,rfl⟩
  ·
   intro a_ w_ R_ rest_ vs12 hm hs ht hx
   have t9:=ht 9 (zJ 14 _ (by kernel_rfl))
   have e9:_=some (vs12 9):=t9.val rfl
   rw [show vs12 9 = .slice (some ⟨(zBj (vs12 9)),0,none⟩) 1 1 from t9.2.1] at e9
   replace hs:=hs.learn e9
   have hs0:=hs.bare
   refine zL hs (.c rfl (.c rfl (.c rfl .n))) call131 (.c .z (.c .z .n)) (zKH (x:=x) (hs.mem.del .z) (hs.mem.del (.s .z)) (hs.mem.ndX (.c .z (.c .z .n))) (by omega) hiv hxs (by omega)) rfl ?_;clear hs;rintro v14 _ a w rfl hs
   exact wpList_nil ⟨rfl,_,_,hs0,(.c (.c (.c .r))),hs,trivial⟩
  ·
   intro a_ w_ R_ rest_ vs12 hm hs ht hx
   have t10:=ht 10 (zJ 14 _ (by kernel_rfl))
   have e10:_=some (vs12 10):=t10.val rfl
   replace hs:=hs.learn e10
   have hs0:=hs.bare
   refine zBh hs rfl rfl .z .z (zK (hm.own (List.mem_append.2 (.inr ((ht 10 (zJ 14 _ (by kernel_rfl))).2.2 (zHo (n:=14) (by kernel_rfl)) _ (List.Mem.head _)))))).isSl.one sizeOf198 ?_;clear hs;intro a w hs
   exact wpList_nil ⟨rfl,.tuple #[],_,hs0,(.c (.c .r)),hs,trivial⟩
  clear hs w a;intro vs12 a w hs hf
  generalize vs12 10=v15 at hs
  clear hf
  revert a w hs
  refine goE 0 [] [0] .n ?_
  intro a w hs
  refine zO [.p [] [],.p [0] [],.p [1] [],.p [2] [0],.v [3] (nI ((zCN l (zAz (sns l) x.t) x).length)),.p [] [],.p [5] [],.p [6] [],.p [7] [0],.p [8,4] []] [9] hs .n (.c (.s (.s .z)) .n) (by kernel_rfl) ⟨rfl,λ_ _ _ _ hm hs K=>zAG hs rfl (zK (hm.del (.s .z))).isSl underlying198 rfl (vk K),rfl,⟨rfl,by kernel_rfl,λ_=>rfl,rfl,rfl,trivial⟩,λ_=>rfl,?_⟩
  refine goE 0 [] [70,0] .n ?_
  refine ifG rfl (λc_17=>?_) (λc_17=>?_)
  ·
   refine go 3 [] [8,7,6] .n ?_
   refine cl (·.drop (.c .z .n)) ?_
   refine cl (·.reorder (.c (.s .z) (.c .z .n))) ?_
   intro a w hs;first | exact zFO hs rfl rfl rfl rfl ⟨_,by unfold zHX zHd;rw [if_pos (by omega),if_pos (by omega)],by unfold zGZ zIp zIm;rw [if_pos (by omega),if_pos (by omega),if_pos (by omega)]⟩ | exact zFO hs rfl rfl rfl rfl ⟨_,by unfold zHX zHd;rw [if_neg (by omega),if_neg (by omega)],by unfold zGZ zIp zIm;rw [if_neg (by omega),if_neg (by omega),if_neg (by omega)]⟩
  refine go 6 [0] [76,72,71,0] (.c (.s (.s .z)) .n) ⟨rfl,?_⟩
  intro a w hs;refine zBF (j:=0) hs rfl rfl (zK (hs.mem.del (.s (.s .z)))) (by decide) (by omega) underlying198 sizeOf214 rfl ?_
  intro a w hs;refine zEU hs rfl (zK (hs.mem.del (.s (.s .z)))) (by omega) underlying214 rfl sizeOf2 (by decide) (o:=0*4+0) rfl rfl ?_
  intro a w hs;refine zBf (u:=zI (((zCN l (zAz (sns l) x.t) x).getD 0 default).t)) hs rfl (zK (hs.mem.del (.s (.s .z)))) ((zBt zB2 (zCN l (zAz (sns l) x.t) x) 0 0 (by omega) (by decide)).trans rfl) isAgg2 rfl ?_
  refine goL 11 [0,0,0] [88,84,0] (.c .z .n) ⟨rfl,rfl,rfl,?_⟩
  intro a w hs;refine zL hs (.c rfl (.c rfl (.c rfl .n))) call132 (.c (.s (.s .z)) .n) (zKb (hs.mem.del (.s (.s .z))) (by omega) hiK (by omega)) rfl ?_;clear hs w a;rintro v18 _ a w rfl hs
  revert a w hs
  refine goL 2 [] [91,89,0] .n ?_
  intro a w hs;refine zBh hs rfl rfl (.s .z) .z (zK (hs.mem.del .z)).isSl.one sizeOf198 ?_
  refine goL 7 [0] [8,7,6] (.c .z .n) ⟨rfl,?_⟩
  refine cl (·.drop (.c (.s (.s .z)) .n)) ?_
  intro a w hs;first | exact zFO hs rfl rfl rfl rfl ⟨_,by unfold zHX zHd;rw [if_pos (by omega),if_pos (by omega)],by unfold zGZ zIp zIm;rw [if_pos (by omega),if_pos (by omega),if_pos (by omega)]⟩ | exact zFO hs rfl rfl rfl rfl ⟨_,by unfold zHX zHd;rw [if_neg (by omega),if_neg (by omega)],by unfold zGZ zIp zIm;rw [if_neg (by omega),if_neg (by omega),if_neg (by omega)]⟩
 rw [c_2] at hs
 revert a w hs
 refine go 9 [] [9,5,0,1] .n ?_
 by_cases kz:zAz (sns l) x.t=0
 ·
  intro a w hs
  refine zO [.p [] [],.v [0] (.bool (true)),.p [1] [],.p [2] [],.p [3,2] [],.p [4,2] [],.p [5,2] [0],.v [6,2] (nI l.length),.p [2] [],.p [8,2] [],.p [9,2] [],.p [10,2] [0],.v [11,7,2] (.bool (false)),.p [12,2] [],.p [13] []] [14] hs .n (.c .z .n) (by kernel_rfl) ⟨λ_ _ _ _ hm hs K=>zCp hs rfl rfl rfl (λa w hs=>wpList_nil (K _ _ (by rw [show ((((zAz (sns l) x.t:Nat):Int):Int)==0)=true from by rw [beq_iff_eq];omega] at hs;exact hs))),rfl,λ_ _ _ _ hm hs K=>zC hs rfl rfl rfl (zAG hs rfl (zK (hm.del (.s (.s .z)))).isSl underlying198 rfl (vk K)),rfl,λ_ _ _ _ hm hs K=>zC hs rfl rfl rfl (zCp hs rfl rfl rfl (λa w hs=>wpList_nil (K _ _ (by rw [show ((((l.length:Nat):Int):Int)==((most:Nat):Int))=false from by rw [beq_eq_false_iff_ne];intro h;exact hz ⟨by omega,by omega⟩] at hs;exact hs)))),⟨rfl,by kernel_rfl,λ_=>rfl,rfl,rfl,trivial⟩,λ_=>rfl,?_⟩
  refine goE 1 [] [9,5,0,1] .n ?_
  intro a w hs
  refine zAQ [.p [] [],.p [] [],.p [1] [],.p [2] [],.y [3] u [] [] [] λvs20=>[],.p [] [],.p [] [],.p [] [0],.p [7,6] [],.x [8] ⟨[],[],[],λvs20=>vs20 9 = .slice (some ⟨(zBj (vs20 9)),0,none⟩) 1 1,λvs20=>[blk (zBj (vs20 9)) [zI x.t,zI x.t,zI x.tm,x.v] 214],none⟩,.x [5,4] ⟨[row u 214 4 l.length (l.flatMap riV)],[9],[],λvs20=>True,λvs20=>[row (vs20 10) 214 4 ((zCN l (zAz (sns l) x.t) x).length) ((zCN l (zAz (sns l) x.t) x).flatMap riV)],none⟩,.p [0] [],.p [11] [],.x [12] ⟨[blk g [u,nI most,zI fl,.bool (gone)] 200],[],[10],λvs20=>True,λvs20=>[blk g [(vs20 10),nI most,zI fl,.bool (gone)] 200],none⟩] [] hs .n (.c (.s (.s .z)) (.c .z .n)) (.c .z .n) (by kernel_rfl) ⟨rfl,⟨(.c .z (.c .z .n)),by kernel_rfl,λ_=>rfl,rfl,rfl⟩,⟨?_,?_,?_,?_,trivial⟩,?_⟩
  ·
   intro a_ w_ R_ rest_ vs20 hm hs ht hx
   have hs0:=hs.bare
   refine zAC hs rfl (hm.own (List.mem_append.2 (.inr ((hx 13 (zJ 14 _ (by kernel_rfl))).1 _ (List.Mem.head _))))) .z isAgg198 rfl ?_;clear hs;intro a w hs
   exact wpList_nil ⟨rfl,_,_,hs0,(.c .r),hs,rfl⟩
  ·
   intro a_ w_ R_ rest_ vs20 hm hs ht hx
   have hs0:=hs.bare
   refine zHt (cs:=[zI x.t,zI x.t,zI x.tm,x.v]) hs (.c .n) (.c rfl .n) underlying198 (ie:=Tryz.t214) rfl rfl rfl rfl (by decide) (by decide) rfl (by decide) rfl rfl rfl ?_;clear hs;intro g21 a w hs
   exact wpList_nil ⟨rfl,_,_,hs0,(.c .r),hs,rfl⟩
  ·
   intro a_ w_ R_ rest_ vs20 hm hs ht hx
   have t9:=ht 9 (zJ 14 _ (by kernel_rfl))
   have e9:_=some (vs20 9):=t9.val rfl
   rw [show vs20 9 = .slice (some ⟨(zBj (vs20 9)),0,none⟩) 1 1 from t9.2.1] at e9
   replace hs:=hs.learn e9
   have hs0:=hs.bare
   refine zL hs (.c rfl (.c rfl (.c rfl .n))) call131 (.c .z (.c .z .n)) (zKH (x:=x) (hs.mem.del .z) (hs.mem.del (.s .z)) (hs.mem.ndX (.c .z (.c .z .n))) (by omega) hiv hxs (by omega)) rfl ?_;clear hs;rintro v22 _ a w rfl hs
   exact wpList_nil ⟨rfl,_,_,hs0,(.c (.c (.c .r))),hs,trivial⟩
  ·
   intro a_ w_ R_ rest_ vs20 hm hs ht hx
   have t10:=ht 10 (zJ 14 _ (by kernel_rfl))
   have e10:_=some (vs20 10):=t10.val rfl
   replace hs:=hs.learn e10
   have hs0:=hs.bare
   refine zBh hs rfl rfl .z .z (zK (hm.own (List.mem_append.2 (.inr ((ht 10 (zJ 14 _ (by kernel_rfl))).2.2 (zHo (n:=14) (by kernel_rfl)) _ (List.Mem.head _)))))).isSl.one sizeOf198 ?_;clear hs;intro a w hs
   exact wpList_nil ⟨rfl,.tuple #[],_,hs0,(.c (.c .r)),hs,trivial⟩
  clear hs w a;intro vs20 a w hs hf
  generalize vs20 10=v23 at hs
  clear hf
  revert a w hs
  refine goE 0 [] [0] .n ?_
  intro a w hs
  refine zO [.p [] [],.p [0] [],.p [1] [],.p [2] [0],.v [3] (nI ((zCN l (zAz (sns l) x.t) x).length)),.p [] [],.p [5] [],.p [6] [],.p [7] [0],.p [8,4] []] [9] hs .n (.c (.s (.s .z)) .n) (by kernel_rfl) ⟨rfl,λ_ _ _ _ hm hs K=>zAG hs rfl (zK (hm.del (.s .z))).isSl underlying198 rfl (vk K),rfl,⟨rfl,by kernel_rfl,λ_=>rfl,rfl,rfl,trivial⟩,λ_=>rfl,?_⟩
  refine goE 0 [] [70,0] .n ?_
  refine ifG rfl (λc_25=>?_) (λc_25=>?_)
  ·
   refine go 3 [] [8,7,6] .n ?_
   refine cl (·.drop (.c .z .n)) ?_
   refine cl (·.reorder (.c (.s .z) (.c .z .n))) ?_
   intro a w hs;first | exact zFO hs rfl rfl rfl rfl ⟨_,by unfold zHX zHd;rw [if_pos (by omega),if_pos (by omega)],by unfold zGZ zIp zIm;rw [if_pos (by omega),if_pos (by omega),if_pos (by omega)]⟩ | exact zFO hs rfl rfl rfl rfl ⟨_,by unfold zHX zHd;rw [if_neg (by omega),if_neg (by omega)],by unfold zGZ zIp zIm;rw [if_neg (by omega),if_neg (by omega),if_neg (by omega)]⟩
  refine go 6 [0] [76,72,71,0] (.c (.s (.s .z)) .n) ⟨rfl,?_⟩
  intro a w hs;refine zBF (j:=0) hs rfl rfl (zK (hs.mem.del (.s (.s .z)))) (by decide) (by omega) underlying198 sizeOf214 rfl ?_
  intro a w hs;refine zEU hs rfl (zK (hs.mem.del (.s (.s .z)))) (by omega) underlying214 rfl sizeOf2 (by decide) (o:=0*4+0) rfl rfl ?_
  intro a w hs;refine zBf (u:=zI (((zCN l (zAz (sns l) x.t) x).getD 0 default).t)) hs rfl (zK (hs.mem.del (.s (.s .z)))) ((zBt zB2 (zCN l (zAz (sns l) x.t) x) 0 0 (by omega) (by decide)).trans rfl) isAgg2 rfl ?_
  refine goL 11 [0,0,0] [88,84,0] (.c .z .n) ⟨rfl,rfl,rfl,?_⟩
  intro a w hs;refine zL hs (.c rfl (.c rfl (.c rfl .n))) call132 (.c (.s (.s .z)) .n) (zKb (hs.mem.del (.s (.s .z))) (by omega) hiK (by omega)) rfl ?_;clear hs w a;rintro v26 _ a w rfl hs
  revert a w hs
  refine goL 2 [] [91,89,0] .n ?_
  intro a w hs;refine zBh hs rfl rfl (.s .z) .z (zK (hs.mem.del .z)).isSl.one sizeOf198 ?_
  refine goL 7 [0] [8,7,6] (.c .z .n) ⟨rfl,?_⟩
  refine cl (·.drop (.c (.s (.s .z)) .n)) ?_
  intro a w hs;first | exact zFO hs rfl rfl rfl rfl ⟨_,by unfold zHX zHd;rw [if_pos (by omega),if_pos (by omega)],by unfold zGZ zIp zIm;rw [if_pos (by omega),if_pos (by omega),if_pos (by omega)]⟩ | exact zFO hs rfl rfl rfl rfl ⟨_,by unfold zHX zHd;rw [if_neg (by omega),if_neg (by omega)],by unfold zGZ zIp zIm;rw [if_neg (by omega),if_neg (by omega),if_neg (by omega)]⟩
 intro a w hs
 refine zO [.p [] [],.v [0] (.bool (false)),.p [1] [],.p [2] [],.p [3,2] [],.p [4,2] [],.p [5,2] [],.p [6,2] [],.p [2] [],.p [8,2] [],.p [9,2] [],.p [10,2] [],.v [11,7,2] undef,.p [12,2] [],.p [13] []] [14] hs .n .n (by kernel_rfl) ⟨λ_ _ _ _ hm hs K=>zCp hs rfl rfl rfl (λa w hs=>wpList_nil (K _ _ (by rw [show ((((zAz (sns l) x.t:Nat):Int):Int)==0)=false from by rw [beq_eq_false_iff_ne];omega] at hs;exact hs))),λ_ _ _ _ hm hs K=>zCV hs rfl rfl rfl rfl rfl (vk K),⟨rfl,by kernel_rfl,λ_=>rfl,rfl,rfl,trivial⟩,λ_=>rfl,?_⟩
 refine goE 1 [] [9,5,0,1] .n ?_
 intro a w hs
 refine zAQ [.p [] [],.p [] [],.p [1] [],.p [2] [],.y [3] u [] [] [] λvs28=>[],.p [] [],.p [] [],.p [] [0],.p [7,6] [],.x [8] ⟨[],[],[],λvs28=>vs28 9 = .slice (some ⟨(zBj (vs28 9)),0,none⟩) 1 1,λvs28=>[blk (zBj (vs28 9)) [zI x.t,zI x.t,zI x.tm,x.v] 214],none⟩,.x [5,4] ⟨[row u 214 4 l.length (l.flatMap riV)],[9],[],λvs28=>True,λvs28=>[row (vs28 10) 214 4 ((zCN l (zAz (sns l) x.t) x).length) ((zCN l (zAz (sns l) x.t) x).flatMap riV)],none⟩,.p [0] [],.p [11] [],.x [12] ⟨[blk g [u,nI most,zI fl,.bool (gone)] 200],[],[10],λvs28=>True,λvs28=>[blk g [(vs28 10),nI most,zI fl,.bool (gone)] 200],none⟩] [] hs .n (.c (.s (.s .z)) (.c .z .n)) (.c .z .n) (by kernel_rfl) ⟨rfl,⟨(.c .z (.c .z .n)),by kernel_rfl,λ_=>rfl,rfl,rfl⟩,⟨?_,?_,?_,?_,trivial⟩,?_⟩
 ·
  intro a_ w_ R_ rest_ vs28 hm hs ht hx
  have hs0:=hs.bare
  refine zAC hs rfl (hm.own (List.mem_append.2 (.inr ((hx 13 (zJ 14 _ (by kernel_rfl))).1 _ (List.Mem.head _))))) .z isAgg198 rfl ?_;clear hs;intro a w hs
  exact wpList_nil ⟨rfl,_,_,hs0,(.c .r),hs,rfl⟩
 ·
  intro a_ w_ R_ rest_ vs28 hm hs ht hx
  have hs0:=hs.bare
  refine zHt (cs:=[zI x.t,zI x.t,zI x.tm,x.v]) hs (.c .n) (.c rfl .n) underlying198 (ie:=Tryz.t214) rfl rfl rfl rfl (by decide) (by decide) rfl (by decide) rfl rfl rfl ?_;clear hs;intro g29 a w hs
  exact wpList_nil ⟨rfl,_,_,hs0,(.c .r),hs,rfl⟩
 ·
  intro a_ w_ R_ rest_ vs28 hm hs ht hx
  have t9:=ht 9 (zJ 14 _ (by kernel_rfl))
  have e9:_=some (vs28 9):=t9.val rfl
  rw [show vs28 9 = .slice (some ⟨(zBj (vs28 9)),0,none⟩) 1 1 from t9.2.1] at e9
  replace hs:=hs.learn e9
  have hs0:=hs.bare
  refine zL hs (.c rfl (.c rfl (.c rfl .n))) call131 (.c .z (.c .z .n)) (zKH (x:=x) (hs.mem.del .z) (hs.mem.del (.s .z)) (hs.mem.ndX (.c .z (.c .z .n))) (by omega) hiv hxs (by omega)) rfl ?_;clear hs;rintro v30 _ a w rfl hs
  exact wpList_nil ⟨rfl,_,_,hs0,(.c (.c (.c .r))),hs,trivial⟩
 ·
  intro a_ w_ R_ rest_ vs28 hm hs ht hx
  have t10:=ht 10 (zJ 14 _ (by kernel_rfl))
  have e10:_=some (vs28 10):=t10.val rfl
  replace hs:=hs.learn e10
  have hs0:=hs.bare
  refine zBh hs rfl rfl .z .z (zK (hm.own (List.mem_append.2 (.inr ((ht 10 (zJ 14 _ (by kernel_rfl))).2.2 (zHo (n:=14) (by kernel_rfl)) _ (List.Mem.head _)))))).isSl.one sizeOf198 ?_;clear hs;intro a w hs
  exact wpList_nil ⟨rfl,.tuple #[],_,hs0,(.c (.c .r)),hs,trivial⟩
 clear hs w a;intro vs28 a w hs hf
 generalize vs28 10=v31 at hs
 clear hf
 revert a w hs
 refine goE 0 [] [0] .n ?_
 intro a w hs
 refine zO [.p [] [],.p [0] [],.p [1] [],.p [2] [0],.v [3] (nI ((zCN l (zAz (sns l) x.t) x).length)),.p [] [],.p [5] [],.p [6] [],.p [7] [0],.p [8,4] []] [9] hs .n (.c (.s (.s .z)) .n) (by kernel_rfl) ⟨rfl,λ_ _ _ _ hm hs K=>zAG hs rfl (zK (hm.del (.s .z))).isSl underlying198 rfl (vk K),rfl,⟨rfl,by kernel_rfl,λ_=>rfl,rfl,rfl,trivial⟩,λ_=>rfl,?_⟩
 refine goE 0 [] [70,0] .n ?_
 refine ifG rfl (λc_33=>?_) (λc_33=>?_)
 ·
  refine go 3 [] [8,7,6] .n ?_
  refine cl (·.drop (.c .z .n)) ?_
  refine cl (·.reorder (.c (.s .z) (.c .z .n))) ?_
  intro a w hs;first | exact zFO hs rfl rfl rfl rfl ⟨_,by unfold zHX zHd;rw [if_pos (by omega),if_pos (by omega)],by unfold zGZ zIp zIm;rw [if_pos (by omega),if_pos (by omega),if_pos (by omega)]⟩ | exact zFO hs rfl rfl rfl rfl ⟨_,by unfold zHX zHd;rw [if_neg (by omega),if_neg (by omega)],by unfold zGZ zIp zIm;rw [if_neg (by omega),if_neg (by omega),if_neg (by omega)]⟩
 refine go 6 [0] [76,72,71,0] (.c (.s (.s .z)) .n) ⟨rfl,?_⟩
 intro a w hs;refine zBF (j:=0) hs rfl rfl (zK (hs.mem.del (.s (.s .z)))) (by decide) (by omega) underlying198 sizeOf214 rfl ?_
 intro a w hs;refine zEU hs rfl (zK (hs.mem.del (.s (.s .z)))) (by omega) underlying214 rfl sizeOf2 (by decide) (o:=0*4+0) rfl rfl ?_
 intro a w hs;refine zBf (u:=zI (((zCN l (zAz (sns l) x.t) x).getD 0 default).t)) hs rfl (zK (hs.mem.del (.s (.s .z)))) ((zBt zB2 (zCN l (zAz (sns l) x.t) x) 0 0 (by omega) (by decide)).trans rfl) isAgg2 rfl ?_
 refine goL 11 [0,0,0] [88,84,0] (.c .z .n) ⟨rfl,rfl,rfl,?_⟩
 intro a w hs;refine zL hs (.c rfl (.c rfl (.c rfl .n))) call132 (.c (.s (.s .z)) .n) (zKb (hs.mem.del (.s (.s .z))) (by omega) hiK (by omega)) rfl ?_;clear hs w a;rintro v34 _ a w rfl hs
 revert a w hs
 refine goL 2 [] [91,89,0] .n ?_
 intro a w hs;refine zBh hs rfl rfl (.s .z) .z (zK (hs.mem.del .z)).isSl.one sizeOf198 ?_
 refine goL 7 [0] [8,7,6] (.c .z .n) ⟨rfl,?_⟩
 refine cl (·.drop (.c (.s (.s .z)) .n)) ?_
 intro a w hs;first | exact zFO hs rfl rfl rfl rfl ⟨_,by unfold zHX zHd;rw [if_pos (by omega),if_pos (by omega)],by unfold zGZ zIp zIm;rw [if_pos (by omega),if_pos (by omega),if_pos (by omega)]⟩ | exact zFO hs rfl rfl rfl rfl ⟨_,by unfold zHX zHd;rw [if_neg (by omega),if_neg (by omega)],by unfold zGZ zIp zIm;rw [if_neg (by omega),if_neg (by omega),if_neg (by omega)]⟩
end Go.Proofs.YtljpfgacpofkpaaGreat
