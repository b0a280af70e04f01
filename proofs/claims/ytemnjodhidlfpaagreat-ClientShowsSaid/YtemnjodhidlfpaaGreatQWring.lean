import Derived.Test.YtemnjodhidlfpaaGreatQG18
import Derived.Test.YtemnjodhidlfpaaGreatQSxStos
import Derived.Test.YtemnjodhidlfpaaGreatQSxBasB
import Derived.Test.YtemnjodhidlfpaaGreatQSxRecs
import Derived.Test.YtemnjodhidlfpaaGreatQG9
/- Walks of rings: what each function does, over the program of this seat. Printed by a program of this session. -/
namespace Go.Proofs.YtemnjodhidlfpaaGreat
open Tryz
open Go Go.Sx Go.RowKit
set_option linter.unusedVariables false
set_option linter.unusedSimpArgs false
set_option maxRecDepth 4000
set_option maxHeartbeats 1000000

theorem zJd {v : Value} {l : List RI} {i vb : Nat} {x : RI} {w : World} (hr : (row v 193 4 l.length (l.flatMap riV)).p w) (hb : (blk vb [.int .i64 x.t, .int .i64 x.t, .int .i64 x.tm, x.v] 193).p w) (hnd : (zO [row v 193 4 l.length (l.flatMap riV), blk vb [.int .i64 x.t, .int .i64 x.t, .int .i64 x.tm, x.v] 193]).Nodup) (hi : i ≤ l.length) (hiv : ∀ x ∈ l, zDe x.v x.l.length) (hx : zDe x.v x.l.length) (hn : l.length ≤ 100000) :
   Calls Tryz.prog 116 #[v,nI i,.slice (some ⟨vb,0,none⟩) 1 1] w (Ret w (zO [row v 193 4 l.length (l.flatMap riV),blk vb [.int .i64 x.t,.int .i64 x.t,.int .i64 x.tm,x.v] 193]) fun u N=>N = [row u 193 4 (zCI l i x).length ((zCI l i x).flatMap riV)]):=by
 have hvb:vb ∉ zO [row v 193 4 l.length (l.flatMap riV)]:=by
   have:(zO ([row v 193 4 l.length (l.flatMap riV)] ++ [blk vb [.int .i64 x.t,.int .i64 x.t,.int .i64 x.tm,x.v] 193])).Nodup:=hnd
   rw [zAn] at this
   exact fun h=>(List.nodup_append.1 this).2.2 vb h vb (by simp [zO,blk]) rfl
 have h1c:=zNi hiv
 have h1v:=zQH hx
 have hlen:=zAN zBv l
 rw [zHM l x hi,← zQL zBv l i x]
 rcases Nat.eq_or_lt_of_le hi with rfl | hlt
 · refine (zWz hr hb rfl h1v hn).mono fun e w' h=>?_
   have e1:(l.flatMap riV).take (l.length * 4) = l.flatMap riV:=List.take_of_length_le (by omega)
   have e2:(l.flatMap riV).drop (l.length * 4) = []:=List.drop_eq_nil_of_le (by omega)
   rw [e1,e2,List.append_nil]
   exact zMo h (fun k hk=>by rw [zEl];exact List.mem_append.2 (.inl (by simpa [zO] using hk)))
 · obtain ⟨g,cap,sp,rfl,hc,hm,hlc,hl,hg⟩:=zM6 hr (by omega)
   have hgb:vb ≠ g:=by rintro rfl;exact hvb (by simp [zO,row,Value.ownBlock])
   by_cases hroom:l.length + 1 ≤ cap
   · refine (zRY hg hl hlc hm hlt hroom hb hgb rfl h1c h1v hn).mono fun e w' h=>?_
     exact zMo h (fun k hk=>by rw [zEl];exact List.mem_append.2 (.inl (by simpa [row,Value.ownBlock] using hk)))
   · refine (zSq hg hl hlt hc (by omega) hb rfl h1c h1v hn).mono fun e w' h=>?_
     exact zMo h (fun k hk=>absurd hk (by simp))
theorem zJw {v : Value} {l : List RI} {w : World} (hr : (row v 193 4 l.length (l.flatMap riV)).p w) (hn2 : 2 ≤ l.length) (hiv : ∀ x ∈ l, zDe x.v x.l.length) (hn : l.length ≤ 100001) :
   Calls Tryz.prog 117 #[v,.int .i64 0,.int .i64 1] w (Ret w (zO [row v 193 4 l.length (l.flatMap riV)]) fun u N=>N = [row u 193 4 (l.drop 1).length ((l.drop 1).flatMap riV)]):=by
 obtain ⟨g,cap,sp,rfl,hc,hm,hlc,hl,hg⟩:=zM6 hr (by omega)
 rw [List.length_drop,← (zHD zBv l 1).2]
 refine (zSG hg hl hlc hm hn2 hc (zNi hiv) hn).mono fun e w' h=>?_
 exact zMo h (fun k hk=>by simpa [zO,row,Value.ownBlock] using hk)

theorem zP0 (x:RI) (hx:zDe x.v x.l.length) (k:Int) (w0:World):Calls Tryz.prog 142 #[.agg #[zI x.t,zI x.t,zI x.tm,x.v],.int .i64 k] w0 (zAj w0 (zI (zMO x.t k))):=by
 obtain ⟨A_,c_,hxv⟩:=hx
 obtain ⟨xt,xtm,xl,xv⟩:=x
 simp only at hxv
 subst hxv
 refine zG (F0:=[(0,.agg #[zI xt,zI xt,zI xtm,.slice A_ xl.length c_]),(1,zI k)]) func142 rfl rfl rfl (.c (.c .n)) (Mem.nil _) ?_
 refine go 7 [0,0] [5,2,1] .n (fun g1=>⟨rfl,?_⟩)
 refine ifG rfl (fun c_2=>?_) (fun c_2=>?_)
 ·
  refine go 1 [] [4] .n ?_
  refine cl (·.drop (.c .z .n)) ?_
  intro a w hs;exact fin hs rfl rfl ⟨congrArg (Value.int .i64) (by show _ = zMO xt k;unfold zMO;first | rw [if_pos (by omega)] | (rw [if_neg (by omega),if_pos (by omega)]) | (rw [if_neg (by omega),if_neg (by omega)])),rfl⟩
 refine go 5 [0] [10] (.c .z .n) ⟨rfl,?_⟩
 refine ifG rfl (fun c_3=>?_) (fun c_3=>?_)
 ·
  refine go 1 [] [4] .n ?_
  refine cl (·.drop (.c .z .n)) ?_
  intro a w hs;exact fin hs rfl rfl ⟨congrArg (Value.int .i64) (by show _ = zMO xt k;unfold zMO;first | rw [if_pos (by omega)] | (rw [if_neg (by omega),if_pos (by omega)]) | (rw [if_neg (by omega),if_neg (by omega)])),rfl⟩
 refine go 1 [] [4] .n ?_
 refine cl (·.drop (.c .z .n)) ?_
 intro a w hs;exact fin hs rfl rfl ⟨congrArg (Value.int .i64) (by show _ = zMO xt k;unfold zMO;first | rw [if_pos (by omega)] | (rw [if_neg (by omega),if_pos (by omega)]) | (rw [if_neg (by omega),if_neg (by omega)])),rfl⟩
theorem zQ5 (u:Value) (l:List RI) (k:Int) (w0:World) (hu:Rd w0 [] u 4 l.length (l.flatMap riV)) (hsr:srt (sns l)) (hll:l.length ≤ 100000) (hiv:∀ x ∈ l,zDe x.v x.l.length):Calls Tryz.prog 141 #[u,.int .i64 k,.func (.func 142) #[] #[]] w0 (zAj w0 (.tuple #[nI (zAq (sns l) k),.bool (zDU (sns l) k)])):=by
 have hsl:=zAH l
 refine zG (F0:=[(0,u),(1,zI k),(2,.func (.func 142) #[] #[])]) func141 rfl rfl rfl (.c (.c (.c .n))) (Mem.nil _) ?_
 refine go 3 [] [12,0,1,2] .n ?_
 intro a w hs;refine zAD hs rfl (hs.rd0 hu).isSl underlying184 rfl ?_
 refine goL 4 [] [10,9,8,0,1,2] .n ?_
 intro a w hs;refine zCL (fun mm_ a w=>∃ lo:Nat,∃ hi:Nat,mm_ = hi - lo ∧ St 49 [(0,u),(1,zI k),(2,.func (.func 142) #[] #[]),(8,nI l.length),(9,nI lo),(10,nI hi)] w0 [] [] a w ∧ lo ≤ hi ∧ hi ≤ l.length ∧ (∀ t,t < lo → ((sns l).getD t default).t < k) ∧ (∀ t,hi ≤ t → t < l.length → k ≤ ((sns l).getD t default).t)) ⟨0,l.length,rfl,hs.sub (.c rfl (.c rfl (.c rfl (.c rfl (.c rfl (.c rfl .n)))))),by omega,by omega,(fun t ht=>absurd ht (by omega)),(fun t ht hl=>absurd hl (by omega))⟩ ?_
 clear hs w a;rintro mm_ a w ⟨lo,hi,rfl,hs,hI1_0,hI1_1,hI1_2,hI1_3⟩
 revert a w hs
 refine go 3 [] [17,0,1,2,8,9,10] .n ?_
 refine ifG rfl (fun c_1=>?_) (fun c_1=>?_)
 ·
  refine go 3 [] [20,0,1,2,8,9,10] .n ⟨(by omega),?_⟩
  intro a w hs;refine zAY hs rfl underlying3 underlying162 rfl ?_
  intro a w hs;refine zAM (X:=BitVec.ofInt 64 (((lo:Nat):Int) + ((hi:Nat):Int))) (m:=1) hs rfl rfl rfl (by decide) rfl ?_
  intro a w hs;refine zAO (X:=(BitVec.ofInt 64 (((lo:Nat):Int) + ((hi:Nat):Int))) >>> 1) hs rfl rfl underlying162 underlying3 rfl ?_
  refine cl (·.recell (v':=nI ((lo + hi) / 2)) (Option.some.inj (congrArg (fun z=>some (Value.int .i64 z)) (zT9 (by omega))))) ?_
  refine goL 4 [] [26,25,24,11,0,1,2,8,9,10] .n ?_
  intro a w hs;refine zBL (j:=((lo + hi) / 2)) hs rfl rfl (hs.rd0 hu) rfl (by omega) underlying184 sizeOf193 rfl ?_
  intro a w hs;refine zBA (cs:=riV (l.getD ((lo + hi) / 2) default)) hs rfl (hs.rd0 hu) (zAT zBv l ((lo + hi) / 2) (by omega)) (by rw [zAN zBv];omega) (by omega) isAgg193 sizeOf193 rfl ?_
  refine goL 1 [] [29,28,24,11,0,1,2,8,9,10] .n ?_
  intro a w hs;refine zBb (us:=[]) (v:=zI (zMO (l.getD ((lo + hi) / 2) default).t k)) hs rfl (.c rfl (.c rfl .n)) rfl call142 (zP0 (l.getD ((lo + hi) / 2) default) (hiv _ (zFT (by omega))) k _) rfl ?_
  refine zOk 1 1 [] [31,11,0,1,2,8,9,10] .n ?_
  intro a w hs;rw [show decide (zMO (l.getD ((lo + hi) / 2) default).t k < 0) = decide ((l.getD ((lo + hi) / 2) default).t < k) from decide_eq_decide.2 zUt] at hs
  revert a w hs
  refine go 0 [] [31,11,0,1,2,8,9,10] .n ?_
  refine ifG rfl (fun c_2=>?_) (fun c_2=>?_)
  ·
   have hcm:((l.getD ((lo + hi) / 2) default).t < k):=by assumption
   refine go 3 [] [9,0,1,2,8,10] .n ⟨(by omega),?_⟩
   intro a w hs;refine ⟨_,?_,((lo + hi) / 2) + 1,hi,rfl,hs.sub (.c rfl (.c rfl (.c rfl (.c rfl (.c rfl (.c rfl .n)))))),by omega,by omega,(fun t ht=>by have h1:=zVP hsr (i:=t) (j:=((lo + hi) / 2)) (by omega) (by omega);rw [zGG l (i:=((lo + hi) / 2)) (by omega)] at h1;have h2:(l.getD ((lo + hi) / 2) default).sn.t < k:=hcm;omega),hI1_3⟩
   omega
  have hcm:¬ ((l.getD ((lo + hi) / 2) default).t < k):=by assumption
  refine go 2 [] [10,0,1,2,8,9] .n ?_
  intro a w hs;refine ⟨_,?_,lo,((lo + hi) / 2),rfl,hs.sub (.c rfl (.c rfl (.c rfl (.c rfl (.c rfl (.c rfl .n)))))),by omega,by omega,hI1_2,(fun t ht hl=>by have h1:=zVP hsr (i:=((lo + hi) / 2)) (j:=t) (by omega) (by omega);rw [zGG l (i:=((lo + hi) / 2)) (by omega)] at h1;have h2:¬ (l.getD ((lo + hi) / 2) default).sn.t < k:=hcm;omega)⟩
  omega
 obtain rfl:lo = hi:=by omega
 have hkp:zAq (sns l) k = lo:=zQI hI1_2 (by rw [hsl];exact hI1_3) (by omega)
 refine go 5 [] [39,35,0,1,2,9] .n ?_
 intro a w hs;refine zW (b:=decide (((lo:Nat):Int) < ((l.length:Nat):Int))) (fun c_3=>?_) (fun c_3=>?_)
 ·
  rw [c_3] at hs
  replace c_3:=of_decide_eq_true c_3
  revert a w hs
  refine go 3 [] [42,41,40,39,35,1] .n ?_
  intro a w hs;refine zF hs rfl rfl rfl ?_
  refine zBL (j:=lo) hs rfl rfl (hs.rd0 hu) rfl (by omega) underlying184 sizeOf193 rfl ?_
  intro a w hs;refine zF hs rfl rfl rfl ?_
  refine zBA (cs:=riV (l.getD lo default)) hs rfl (hs.rd0 hu) (zAT zBv l lo (by omega)) (by rw [zAN zBv];omega) (by omega) isAgg193 sizeOf193 rfl ?_
  refine goL 1 [] [45,44,40,39,35] .n ?_
  intro a w hs;refine zF hs rfl rfl rfl ?_
  refine zBb (us:=[]) (v:=zI (zMO (l.getD lo default).t k)) hs rfl (.c rfl (.c rfl .n)) rfl call142 (zP0 (l.getD lo default) (hiv _ (zFT (by omega))) k _) rfl ?_
  refine goL 4 [] [7,6] .n ?_
  have hke:=zV7 hsr (k:=k) (by omega)
  intro a w hs;rw [hkp,zGG l (i:=lo) (by omega)] at hke
  exact zBO hs rfl rfl rfl ⟨by rw [hkp,hke];rfl,rfl⟩
 rw [c_3] at hs
 replace c_3:=of_decide_eq_false c_3
 revert a w hs
 refine go 11 [] [7,6] .n ?_
 intro a w hs;exact zBO hs rfl rfl rfl ⟨by rw [zSU hsr (by omega),hkp],rfl⟩
theorem zKJ (g:Nat) (u:Value) (l:List RI) (most:Nat) (fl:Int) (gone:Bool) (k:Int) (w0:World) (hu:Rd w0 [] u 4 l.length (l.flatMap riV)) (hg:(blk g [u,nI most,zI fl,.bool (gone)] 186).p w0) (hsr:srt (sns l)) (hll:l.length ≤ 100000) (hiv:∀ x ∈ l,zDe x.v x.l.length):Calls Tryz.prog 103 #[pt g 0,.int .i64 k] w0 (zAj w0 (.tuple #[nI (zAq (sns l) k),.bool (zDU (sns l) k)])):=by
 have hsl:=zAH l
 have hkl:=zDy (sns l)
 refine zG (F0:=[(0,pt g 0),(1,zI k)]) func103 rfl rfl rfl (.c (.c .n)) (Mem.nil _) ?_
 refine go 5 [] [8,1] .n ?_
 intro a w hs;refine zX hs rfl (hs.mem.keep hg (by simp [zO,blk])) .z isAgg184 rfl ?_
 refine goL 1 [] [10,9] .n ?_
 intro a w hs;refine zB (v:=.tuple #[nI (zAq (sns l) k),.bool (zDU (sns l) k)]) hs (.c rfl (.c rfl (.c rfl .n))) call141 (zQ5 _ l k _ (hs.rd0 hu) hsr hll hiv) rfl ?_
 refine goL 4 [] [5,4] .n ?_
 intro a w hs;exact zBO hs rfl rfl rfl ⟨rfl,rfl⟩
theorem zGS (g:Nat) (u:Value) (l:List RI) (most:Nat) (fl:Int) (gone:Bool) (k:Int) (w0:World) (hu:Rd w0 [] u 4 l.length (l.flatMap riV)) (hg:(blk g [u,nI most,zI fl,.bool (gone)] 186).p w0) (hsr:srt (sns l)) (hll:l.length ≤ 100000) (hiv:∀ x ∈ l,zDe x.v x.l.length):Calls Tryz.prog 63 #[pt g 0,.int .i64 k] w0 (zAj w0 (.tuple #[.agg #[zI ((zAV l k).t),zI ((zAV l k).tm),(zAV l k).v],.bool (zDU (sns l) k)])):=by
 have hsl:=zAH l
 have hkl:=zDy (sns l)
 refine zG (F0:=[(0,pt g 0),(1,zI k)]) func63 rfl rfl rfl (.c (.c .n)) (Mem.nil _) ?_
 refine go 7 [] [12,11,4,0] .n (fun g1=>?_)
 intro a w hs;refine zB (v:=.tuple #[nI (zAq (sns l) k),.bool (zDU (sns l) k)]) hs (.c rfl (.c rfl .n)) call103 (zKJ g _ l most fl gone k _ (hs.rd0 hu) (hs.mem.keep hg (by simp [zO,blk])) hsr hll hiv) rfl ?_
 refine goL 6 [] [16,5,6,4,0] .n ?_
 refine ifG rfl (fun c_2=>?_) (fun c_2=>?_)
 ·
  have hh_:zDU (sns l) k = true:=by assumption
  have hkb:=((zEB hsr).1 hh_).1
  have hrg:zAV l k = l.getD (zAq (sns l) k) default:=if_pos hh_
  refine go 3 [] [19,5,6,4] .n ?_
  intro a w hs;refine zX hs rfl (hs.mem.keep hg (by simp [zO,blk])) .z isAgg184 rfl ?_
  refine goL 1 [] [21,20,5,4] .n ?_
  intro a w hs;refine zBL (j:=zAq (sns l) k) hs rfl rfl (hs.rd0 hu) rfl (by omega) underlying184 sizeOf193 rfl ?_
  intro a w hs;refine zEI hs rfl (hs.rd0 hu) (by omega) underlying193 rfl sizeOf44 (by decide) (o:=(zAq (sns l) k) * 4 + 1) rfl rfl ?_
  intro a w hs;refine zBA (cs:=[zI ((l.getD (zAq (sns l) k) default).t),zI ((l.getD (zAq (sns l) k) default).tm),(l.getD (zAq (sns l) k) default).v]) hs rfl (hs.rd0 hu) ((zKt zBv l (zAq (sns l) k) 1 3 (by omega)).trans rfl) (by rw [zAN zBv];omega) (by omega) isAgg44 sizeOf44 rfl ?_
  refine goL 5 [50,0,50] [5,4] (.c .z .n) ⟨rfl,(zJ rfl (zJ rfl (zJ (hiv _ (zFT (by omega))).one zAb))),rfl,rfl,(zJ rfl (zJ rfl (zJ (hiv _ (zFT (by omega))).one zAb))),?_⟩
  intro a w hs;exact zBd hs rfl rfl rfl .z (.z (.c (.c (.c .n)))) isAgg44 sizeOf44 (.c .z .n) ⟨by rw [hrg] <;> rfl,rfl⟩
 have hh_:zDU (sns l) k = false:=by assumption
 have hrg:zAV l k = default:=if_neg (by rw [hh_];simp)
 refine go 4 [0,0] [5,4] (.c .z .n) ⟨rfl,rfl,?_⟩
 intro a w hs;exact zBd hs rfl rfl rfl .z (.z (.c (.c (.c .n)))) isAgg44 sizeOf44 (.c .z .n) ⟨by rw [hrg] <;> rfl,rfl⟩
theorem zHR (g:Nat) (u:Value) (l:List RI) (most:Nat) (fl:Int) (gone:Bool) (i:Int) (w0:World) (hu:Rd w0 [] u 4 l.length (l.flatMap riV)) (hg:(blk g [u,nI most,zI fl,.bool (gone)] 186).p w0) (hsr:srt (sns l)) (hll:l.length ≤ 100000) (hiv:∀ x ∈ l,zDe x.v x.l.length):Calls Tryz.prog 102 #[pt g 0,.int .i64 i] w0 (zAj w0 (.tuple #[zI (rat l i).t,.agg #[zI ((rat l i).t),zI ((rat l i).tm),(rat l i).v],nI (zKb (sns l) i)])):=by
 have hsl:=zAH l
 have hkl:=zDy (sns l)
 refine zG (F0:=[(0,pt g 0),(1,zI i)]) func102 rfl rfl rfl (.c (.c .n)) (Mem.nil _) ?_
 refine go 11 [] [15,7,5,0,1] .n (fun g1=>fun g2=>?_)
 intro a w hs;refine zW (b:=decide (i < 0)) (fun c_3=>?_) (fun c_3=>?_)
 ·
  rw [c_3] at hs
  replace c_3:=of_decide_eq_true c_3
  revert a w hs
  refine go 10 [] [7,5] .n ?_
  intro a w hs
  refine zS [.p [] [0],.p [] [],.s [0] [0] [0] [],.p [] []] [1,3] hs (.c (.s .z) .n) (.c .z .n) (by kernel_rfl) ⟨rfl,rfl,⟨rfl,by kernel_rfl,fun _=>rfl,rfl,rfl,trivial⟩,fun _=>rfl,?_⟩
  refine goE 0 [] [6,4,5] .n ?_
  intro a w hs;exact zWv hs rfl rfl rfl rfl (.s .z) (.z (.c (.c (.c .n)))) isAgg44 sizeOf44 (.c (.s .z) (.c .z .n)) ⟨by first | (rw [show rat l i = default from if_neg (by omega),show zKb (sns l) i = 3 from if_neg (by rw [zAH];omega)] <;> rfl) | (rw [show rat l i = l.getD i.toNat default from if_pos ⟨by omega,by omega⟩,show zKb (sns l) i = 0 from if_pos ⟨by omega,by rw [zAH];omega⟩] <;> rfl),rfl⟩
 rw [c_3] at hs
 replace c_3:=of_decide_eq_false c_3
 revert a w hs
 refine go 4 [] [19,16,15,7,5,0,1] .n ?_
 intro a w hs;refine zF hs rfl rfl rfl ?_
 refine zX hs rfl (hs.mem.keep hg (by simp [zO,blk])) .z isAgg184 rfl ?_
 intro a w hs;refine zF hs rfl rfl rfl ?_
 refine zAD hs rfl (hs.rd0 hu).isSl underlying184 rfl ?_
 refine goL 3 [] [12,7,5,0,1] .n ?_
 refine ifG rfl (fun c_5=>?_) (fun c_5=>?_)
 ·
  refine go 0 [] [7,5] .n ?_
  intro a w hs
  refine zS [.p [] [0],.p [] [],.s [0] [0] [0] [],.p [] []] [1,3] hs (.c (.s .z) .n) (.c .z .n) (by kernel_rfl) ⟨rfl,rfl,⟨rfl,by kernel_rfl,fun _=>rfl,rfl,rfl,trivial⟩,fun _=>rfl,?_⟩
  refine goE 0 [] [6,4,5] .n ?_
  intro a w hs;exact zWv hs rfl rfl rfl rfl (.s .z) (.z (.c (.c (.c .n)))) isAgg44 sizeOf44 (.c (.s .z) (.c .z .n)) ⟨by first | (rw [show rat l i = default from if_neg (by omega),show zKb (sns l) i = 3 from if_neg (by rw [zAH];omega)] <;> rfl) | (rw [show rat l i = l.getD i.toNat default from if_pos ⟨by omega,by omega⟩,show zKb (sns l) i = 0 from if_pos ⟨by omega,by rw [zAH];omega⟩] <;> rfl),rfl⟩
 refine go 0 [] [5,0,1] .n ?_
 intro a w hs
 refine zS [.p [] [],.p [0] [],.p [1] [],.v [2] u,.p [] [],.v [4,3] (.pointer (some (adr u (((i).toNat) * 4)))),.v [5] (.pointer (some (adr u (((i).toNat) * 4 + 0)))),.v [6] (zI ((l.getD ((i).toNat) default).t)),.p [] [],.p [8] [],.p [9] [],.v [10] u,.p [] [],.v [12,11] (.pointer (some (adr u (((i).toNat) * 4)))),.v [13] (.pointer (some (adr u (((i).toNat) * 4 + 1)))),.v [14] (.agg #[zI ((l.getD ((i).toNat) default).t),zI ((l.getD ((i).toNat) default).tm),(l.getD ((i).toNat) default).v]),.p [7] [],.s [15] [50] [0] [],.p [] []] [16,18] hs (.c (.s .z) .n) .n (by kernel_rfl) ⟨fun _ _ _ _ hm hs K=>zX hs rfl (hm.keep hg (by simp [zO,blk])) .z isAgg184 rfl (vk K),fun _ _ _ _ hm hs K=>zBL (j:=(i).toNat) hs rfl rfl (hm.rd0 hu) (by omega) (by omega) underlying184 sizeOf193 rfl (vk K),fun _ _ _ _ hm hs K=>zEI hs rfl (hm.rd0 hu) (by omega) underlying193 rfl sizeOf2 (by decide) (o:=((i).toNat) * 4 + 0) rfl rfl (vk K),fun _ _ _ _ hm hs K=>zBS (u:=zI ((l.getD ((i).toNat) default).t)) hs rfl (hm.rd0 hu) ((zCK zBv l ((i).toNat) 0 (by omega) (by decide)).trans rfl) isAgg2 rfl (vk K),fun _ _ _ _ hm hs K=>zX hs rfl (hm.keep hg (by simp [zO,blk])) .z isAgg184 rfl (vk K),fun _ _ _ _ hm hs K=>zBL (j:=(i).toNat) hs rfl rfl (hm.rd0 hu) (by omega) (by omega) underlying184 sizeOf193 rfl (vk K),fun _ _ _ _ hm hs K=>zEI hs rfl (hm.rd0 hu) (by omega) underlying193 rfl sizeOf44 (by decide) (o:=((i).toNat) * 4 + 1) rfl rfl (vk K),fun _ _ _ _ hm hs K=>zBA (cs:=[zI ((l.getD ((i).toNat) default).t),zI ((l.getD ((i).toNat) default).tm),(l.getD ((i).toNat) default).v]) hs rfl (hm.rd0 hu) ((zKt zBv l ((i).toNat) 1 3 (by omega)).trans rfl) (by rw [zAN zBv];omega) (by omega) isAgg44 sizeOf44 rfl (vk K),rfl,(zJ rfl (zJ rfl (zJ (hiv _ (zFT (by omega))).one zAb))),⟨rfl,by kernel_rfl,fun _=>rfl,rfl,rfl,trivial⟩,fun _=>rfl,?_⟩
 refine goE 0 [] [6,4,5] .n ?_
 intro a w hs;exact zWv hs rfl rfl rfl rfl (.s .z) (.z (.c (.c (.c .n)))) isAgg44 sizeOf44 (.c (.s .z) (.c .z .n)) ⟨by first | (rw [show rat l i = default from if_neg (by omega),show zKb (sns l) i = 3 from if_neg (by rw [zAH];omega)] <;> rfl) | (rw [show rat l i = l.getD i.toNat default from if_pos ⟨by omega,by omega⟩,show zKb (sns l) i = 0 from if_pos ⟨by omega,by rw [zAH];omega⟩] <;> rfl),rfl⟩
theorem zEm (g:Nat) (u:Value) (l:List RI) (most:Nat) (fl:Int) (gone:Bool) (k:Int) (w0:World) (hu:Rd w0 [] u 4 l.length (l.flatMap riV)) (hg:(blk g [u,nI most,zI fl,.bool (gone)] 186).p w0) (hsr:srt (sns l)) (hll:l.length ≤ 100000) (hiv:∀ x ∈ l,zDe x.v x.l.length):Calls Tryz.prog 149 #[pt g 0,.int .i64 k] w0 (zAj w0 (nI (zAB (sns l) k))):=by
 have hsl:=zAH l
 have hkl:=zDy (sns l)
 refine zG (F0:=[(0,pt g 0),(1,zI k)]) func149 rfl rfl rfl (.c (.c .n)) (Mem.nil _) ?_
 refine go 6 [] [11,10] .n ?_
 intro a w hs;refine zB (v:=.tuple #[nI (zAq (sns l) k),.bool (zDU (sns l) k)]) hs (.c rfl (.c rfl .n)) call103 (zKJ g _ l most fl gone k _ (hs.rd0 hu) (hs.mem.keep hg (by simp [zO,blk])) hsr hll hiv) rfl ?_
 refine goL 6 [] [15,5] .n ?_
 refine ifG rfl (fun c_1=>?_) (fun c_1=>?_)
 ·
  have hku:zAB (sns l) k = zAq (sns l) k + 1:=by unfold zAB;rw [if_pos (by assumption)]
  have hkl:=hkl k
  refine go 5 [] [4] .n ⟨(by omega),?_⟩
  intro a w hs;exact fin hs rfl rfl ⟨by rw [hku] <;> rfl,rfl⟩
 have hh_:zDU (sns l) k = false:=by assumption
 have hku:zAB (sns l) k = zAq (sns l) k:=by unfold zAB;rw [if_neg (by rw [hh_];simp)];rfl
 refine go 2 [] [4] .n ?_
 intro a w hs;exact fin hs rfl rfl ⟨by rw [hku] <;> rfl,rfl⟩
theorem zCR (g:Nat) (u:Value) (l:List RI) (most:Nat) (fl:Int) (gone:Bool) (w0:World) (hu:Rd w0 [] u 4 l.length (l.flatMap riV)) (hg:(blk g [u,nI most,zI fl,.bool (gone)] 186).p w0) (hsr:srt (sns l)) (hll:l.length ≤ 100000) (hiv:∀ x ∈ l,zDe x.v x.l.length):Calls Tryz.prog 101 #[pt g 0] w0 (zAj w0 (nI l.length)):=by
 have hsl:=zAH l
 have hkl:=zDy (sns l)
 refine zG (F0:=[(0,pt g 0)]) func101 rfl rfl rfl (.c .n) (Mem.nil _) ?_
 refine go 7 [] [7] .n ?_
 intro a w hs;refine zX hs rfl (hs.mem.keep hg (by simp [zO,blk])) .z isAgg184 rfl ?_
 intro a w hs;refine zAD hs rfl (hs.rd0 hu).isSl underlying184 rfl ?_
 refine goL 1 [] [2] .n ?_
 intro a w hs;exact fin hs rfl rfl ⟨rfl,rfl⟩
theorem zPz (g:Nat) (u:Value) (l:List RI) (most:Nat) (fl:Int) (gone:Bool) (w0:World) (hg:(blk g [u,nI most,zI fl,.bool (gone)] 186).p w0):Calls Tryz.prog 148 #[pt g 0] w0 (zAj w0 (.tuple #[.int .i64 fl,.bool gone])):=by
 refine zG (F0:=[(0,pt g 0)]) func148 rfl rfl rfl (.c .n) (Mem.nil _) ?_
 refine go 5 [] [0] .n ?_
 intro a w hs
 refine zS [.p [] [],.p [0] [],.p [1] [],.v [2] (zI fl),.p [] [],.p [4] [],.p [5] [],.v [6] (.bool (gone)),.p [3] [],.p [7] []] [8,9] hs .n .n (by kernel_rfl) ⟨fun _ _ _ _ hm hs K=>zX hs rfl (hm.keep hg (by simp [zO,blk])) (.s (.s .z)) isAgg2 rfl (vk K),fun _ _ _ _ hm hs K=>zX hs rfl (hm.keep hg (by simp [zO,blk])) (.s (.s (.s .z))) isAgg4 rfl (vk K),⟨rfl,by kernel_rfl,fun _=>rfl,rfl,rfl,trivial⟩,fun _=>rfl,?_⟩
 refine goE 0 [] [3,2] .n ?_
 intro a w hs;exact zBO hs rfl rfl rfl ⟨rfl,rfl⟩
theorem zOb (g:Nat) (u:Value) (l:List RI) (most:Nat) (fl:Int) (gone:Bool) (x:RI) (w0:World) (hr:(row u 193 4 l.length (l.flatMap riV)).p w0) (hg:(blk g [u,nI most,zI fl,.bool (gone)] 186).p w0) (hnd:(zO [row u 193 4 l.length (l.flatMap riV),blk g [u,nI most,zI fl,.bool (gone)] 186]).Nodup) (hsr:srt (sns l)) (hll:l.length ≤ most) (hmo:most ≤ 64) (hm1:1 ≤ most) (hiv:∀ x ∈ l,zDe x.v x.l.length) (hxs:zDe x.v x.l.length) (hk:zDU (sns l) x.t = false) (hst:¬ (gone = true ∧ x.t ≤ fl)) (hz:¬ (zAq (sns l) x.t = 0 ∧ l.length = most)):Calls Tryz.prog 76 #[pt g 0,.int .i64 x.t,.agg #[zI x.t,zI x.tm,x.v]] w0 (Ret w0 (zO [row u 193 4 l.length (l.flatMap riV),blk g [u,nI most,zI fl,.bool (gone)] 186]) fun z N=>∃ u',z = .tuple #[zI (zG9 l most x),.bool (zHI l most x),.int .i64 0] ∧ N = [blk g [u',nI most,zI (zIQ l most fl x),.bool (zIO l most gone x)] 186,row u' 193 4 ((zGF l most x).length) ((zGF l most x).flatMap riV)]):=by
 have hkl:=zDy (sns l) x.t
 rw [zAH] at hkl
 have hK:=zHM l x hkl
 have hiK:=zSy hiv hxs (zAq (sns l) x.t)
 refine zG (F0:=[(0,pt g 0),(1,zI x.t),(2,.agg #[zI x.t,zI x.tm,x.v])]) func76 rfl rfl rfl (.c (.c (.c .n))) (zD5 hr hg hnd) ?_
 refine go 9 [0] [15,14,5,0,1] .n (fun g1=>?_)
 intro a w hs;refine zB (v:=.tuple #[nI (zAq (sns l) x.t),.bool (zDU (sns l) x.t)]) hs (.c rfl (.c rfl .n)) call103 (zKJ g _ l most fl gone x.t _ (zL (hs.mem.del (.s .z))) (hs.mem.del (.s (.s .z))) hsr (by omega) hiv) rfl ?_
 refine zOk 13 7 [] [19,9,5,0,1] .n ?_
 have hb_:(zDU (sns l) x.t) = false:=by exact hk
 intro a w hs;rw [hb_] at hs;clear hb_
 revert a w hs
 refine go 5 [0] [25,9,5,0,1] (.c (.s (.s .z)) .n) ⟨rfl,?_⟩
 refine cl (·.recell (v':=.bool (id gone)) (Option.some.inj rfl)) ?_
 refine go 1 [] [26,9,5,0,1] .n ?_
 intro a w hs;refine zW (b:=id gone) (fun c_2=>?_) (fun c_2=>?_)
 ·
  rw [c_2] at hs
  revert a w hs
  refine go 6 [0] [32,26,9,5,0,1] (.c .z .n) ⟨rfl,?_⟩
  have hb_:(decide (x.t ≤ fl)) = false:=decide_eq_false (fun h=>hst ⟨(by assumption:id gone = true),h⟩)
  intro a w hs;rw [hb_] at hs;clear hb_
  revert a w hs
  refine go 3 [] [9,5,0,1] .n ?_
  by_cases kz:zAq (sns l) x.t = 0
  ·
   intro a w hs
   refine zS [.p [] [],.v [0] (.bool (true)),.p [1] [],.p [2] [],.p [3,2] [],.p [4,2] [],.p [5,2] [0],.v [6,2] (nI l.length),.p [2] [],.p [8,2] [],.p [9,2] [],.p [10,2] [0],.v [11,7,2] (.bool (false)),.p [12,2] [],.p [13] []] [14] hs .n (.c .z .n) (by kernel_rfl) ⟨fun _ _ _ _ hm hs K=>zCi hs rfl rfl rfl (fun a w hs=>wpList_nil (K _ _ (by rw [show ((((zAq (sns l) x.t:Nat):Int):Int) == 0) = true from by rw [beq_iff_eq];omega] at hs;exact hs))),rfl,fun _ _ _ _ hm hs K=>zF hs rfl rfl rfl (zAD hs rfl (zL (hm.del (.s (.s .z)))).isSl underlying184 rfl (vk K)),rfl,fun _ _ _ _ hm hs K=>zF hs rfl rfl rfl (zCi hs rfl rfl rfl (fun a w hs=>wpList_nil (K _ _ (by rw [show ((((l.length:Nat):Int):Int) == ((most:Nat):Int)) = false from by rw [beq_eq_false_iff_ne];intro h;exact hz ⟨by omega,by omega⟩] at hs;exact hs)))),⟨rfl,by kernel_rfl,fun _=>rfl,rfl,rfl,trivial⟩,fun _=>rfl,?_⟩
   refine goE 1 [] [9,5,0,1] .n ?_
   intro a w hs
   refine zAS [.p [] [],.p [] [],.p [1] [],.p [2] [],.y [3] u [] [] [] fun vs4=>[],.p [] [],.p [] [],.p [] [0],.p [7,6] [],.x [8] ⟨[],[],[],fun vs4=>vs4 9 = .slice (some ⟨(zCs (vs4 9)),0,none⟩) 1 1,fun vs4=>[blk (zCs (vs4 9)) [zI x.t,zI x.t,zI x.tm,x.v] 193],none⟩,.x [5,4] ⟨[row u 193 4 l.length (l.flatMap riV)],[9],[],fun vs4=>True,fun vs4=>[row (vs4 10) 193 4 ((zCI l (zAq (sns l) x.t) x).length) ((zCI l (zAq (sns l) x.t) x).flatMap riV)],none⟩,.p [0] [],.p [11] [],.x [12] ⟨[blk g [u,nI most,zI fl,.bool (gone)] 186],[],[10],fun vs4=>True,fun vs4=>[blk g [(vs4 10),nI most,zI fl,.bool (gone)] 186],none⟩] [] hs .n (.c (.s (.s .z)) (.c .z .n)) (.c .z .n) (by kernel_rfl) ⟨rfl,⟨(.c .z (.c .z .n)),by kernel_rfl,fun _=>rfl,rfl,rfl⟩,⟨?_,?_,?_,?_,trivial⟩,?_⟩
   ·
    intro a_ w_ R_ rest_ vs4 hm hs ht hx
    have hs0:=hs.bare
    refine zX hs rfl (hm.own (List.mem_append.2 (.inr ((hx 13 (zK 14 _ (by kernel_rfl))).1 _ (List.Mem.head _))))) .z isAgg184 rfl ?_;clear hs;intro a w hs
    exact wpList_nil ⟨rfl,_,_,hs0,(.c .r),hs,rfl⟩
   ·
    intro a_ w_ R_ rest_ vs4 hm hs ht hx
    have hs0:=hs.bare
    refine zIM (cs:=[zI x.t,zI x.t,zI x.tm,x.v]) hs (.c .n) (.c rfl .n) underlying184 (ie:=Tryz.t193) rfl rfl rfl rfl (by decide) (by decide) rfl (by decide) rfl rfl rfl ?_;clear hs;intro g5 a w hs
    exact wpList_nil ⟨rfl,_,_,hs0,(.c .r),hs,rfl⟩
   ·
    intro a_ w_ R_ rest_ vs4 hm hs ht hx
    have t9:=ht 9 (zK 14 _ (by kernel_rfl))
    have e9:_ = some (vs4 9):=t9.val rfl
    rw [show vs4 9 = .slice (some ⟨(zCs (vs4 9)),0,none⟩) 1 1 from t9.2.1] at e9
    replace hs:=hs.learn e9
    have hs0:=hs.bare
    refine zM hs (.c rfl (.c rfl (.c rfl .n))) call116 (.c .z (.c .z .n)) (zJd (x:=x) (hs.mem.del .z) (hs.mem.del (.s .z)) (hs.mem.ndX (.c .z (.c .z .n))) (by omega) hiv hxs (by omega)) rfl ?_;clear hs;rintro v6 _ a w rfl hs
    exact wpList_nil ⟨rfl,_,_,hs0,(.c (.c (.c .r))),hs,trivial⟩
   ·
    intro a_ w_ R_ rest_ vs4 hm hs ht hx
    have t10:=ht 10 (zK 14 _ (by kernel_rfl))
    have e10:_ = some (vs4 10):=t10.val rfl
    replace hs:=hs.learn e10
    have hs0:=hs.bare
    refine zBX hs rfl rfl .z .z (zL (hm.own (List.mem_append.2 (.inr ((ht 10 (zK 14 _ (by kernel_rfl))).2.2 (zHp (n:=14) (by kernel_rfl)) _ (List.Mem.head _)))))).isSl.one sizeOf184 ?_;clear hs;intro a w hs
    exact wpList_nil ⟨rfl,.tuple #[],_,hs0,(.c (.c .r)),hs,trivial⟩
   clear hs w a;intro vs4 a w hs hf
   generalize vs4 10 = v7 at hs
   clear hf
   revert a w hs
   refine goE 0 [] [0] .n ?_
   intro a w hs
   refine zS [.p [] [],.p [0] [],.p [1] [],.p [2] [0],.v [3] (nI ((zCI l (zAq (sns l) x.t) x).length)),.p [] [],.p [5] [],.p [6] [],.p [7] [0],.p [8,4] []] [9] hs .n (.c (.s (.s .z)) .n) (by kernel_rfl) ⟨rfl,fun _ _ _ _ hm hs K=>zAD hs rfl (zL (hm.del (.s .z))).isSl underlying184 rfl (vk K),rfl,⟨rfl,by kernel_rfl,fun _=>rfl,rfl,rfl,trivial⟩,fun _=>rfl,?_⟩
   refine goE 0 [] [70,0] .n ?_
   refine ifG rfl (fun c_9=>?_) (fun c_9=>?_)
   ·
    refine go 3 [] [8,7,6] .n ?_
    refine cl (·.drop (.c .z .n)) ?_
    refine cl (·.reorder (.c (.s .z) (.c .z .n))) ?_
    intro a w hs;first | exact zEz hs rfl rfl rfl rfl ⟨_,by unfold zG9 zHI;rw [if_pos (by omega),if_pos (by omega)],by unfold zGF zIQ zIO;rw [if_pos (by omega),if_pos (by omega),if_pos (by omega)]⟩ | exact zEz hs rfl rfl rfl rfl ⟨_,by unfold zG9 zHI;rw [if_neg (by omega),if_neg (by omega)],by unfold zGF zIQ zIO;rw [if_neg (by omega),if_neg (by omega),if_neg (by omega)]⟩
   refine go 6 [0] [76,72,71,0] (.c (.s (.s .z)) .n) ⟨rfl,?_⟩
   intro a w hs;refine zBL (j:=0) hs rfl rfl (zL (hs.mem.del (.s (.s .z)))) (by decide) (by omega) underlying184 sizeOf193 rfl ?_
   intro a w hs;refine zEI hs rfl (zL (hs.mem.del (.s (.s .z)))) (by omega) underlying193 rfl sizeOf2 (by decide) (o:=0 * 4 + 0) rfl rfl ?_
   intro a w hs;refine zBS (u:=zI (((zCI l (zAq (sns l) x.t) x).getD 0 default).t)) hs rfl (zL (hs.mem.del (.s (.s .z)))) ((zCK zBv (zCI l (zAq (sns l) x.t) x) 0 0 (by omega) (by decide)).trans rfl) isAgg2 rfl ?_
   refine goL 11 [0,0,0] [88,84,0] (.c .z .n) ⟨rfl,rfl,rfl,?_⟩
   intro a w hs;refine zM hs (.c rfl (.c rfl (.c rfl .n))) call117 (.c (.s (.s .z)) .n) (zJw (hs.mem.del (.s (.s .z))) (by omega) hiK (by omega)) rfl ?_;clear hs w a;rintro v10 _ a w rfl hs
   revert a w hs
   refine goL 2 [] [91,89,0] .n ?_
   intro a w hs;refine zBX hs rfl rfl (.s .z) .z (zL (hs.mem.del .z)).isSl.one sizeOf184 ?_
   refine goL 7 [0] [8,7,6] (.c .z .n) ⟨rfl,?_⟩
   refine cl (·.drop (.c (.s (.s .z)) .n)) ?_
   intro a w hs;first | exact zEz hs rfl rfl rfl rfl ⟨_,by unfold zG9 zHI;rw [if_pos (by omega),if_pos (by omega)],by unfold zGF zIQ zIO;rw [if_pos (by omega),if_pos (by omega),if_pos (by omega)]⟩ | exact zEz hs rfl rfl rfl rfl ⟨_,by unfold zG9 zHI;rw [if_neg (by omega),if_neg (by omega)],by unfold zGF zIQ zIO;rw [if_neg (by omega),if_neg (by omega),if_neg (by omega)]⟩
  intro a w hs
  refine zS [.p [] [],.v [0] (.bool (false)),.p [1] [],.p [2] [],.p [3,2] [],.p [4,2] [],.p [5,2] [],.p [6,2] [],.p [2] [],.p [8,2] [],.p [9,2] [],.p [10,2] [],.v [11,7,2] undef,.p [12,2] [],.p [13] []] [14] hs .n .n (by kernel_rfl) ⟨fun _ _ _ _ hm hs K=>zCi hs rfl rfl rfl (fun a w hs=>wpList_nil (K _ _ (by rw [show ((((zAq (sns l) x.t:Nat):Int):Int) == 0) = false from by rw [beq_eq_false_iff_ne];omega] at hs;exact hs))),fun _ _ _ _ hm hs K=>zBm hs rfl rfl rfl rfl rfl (vk K),⟨rfl,by kernel_rfl,fun _=>rfl,rfl,rfl,trivial⟩,fun _=>rfl,?_⟩
  refine goE 1 [] [9,5,0,1] .n ?_
  intro a w hs
  refine zAS [.p [] [],.p [] [],.p [1] [],.p [2] [],.y [3] u [] [] [] fun vs12=>[],.p [] [],.p [] [],.p [] [0],.p [7,6] [],.x [8] ⟨[],[],[],fun vs12=>vs12 9 = .slice (some ⟨(zCs (vs12 9)),0,none⟩) 1 1,fun vs12=>[blk (zCs (vs12 9)) [zI x.t,zI x.t,zI x.tm,x.v] 193],none⟩,.x [5,4] ⟨[row u 193 4 l.length (l.flatMap riV)],[9],[],fun vs12=>True,fun vs12=>[row (vs12 10) 193 4 ((zCI l (zAq (sns l) x.t) x).length) ((zCI l (zAq (sns l) x.t) x).flatMap riV)],none⟩,.p [0] [],.p [11] [],.x [12] ⟨[blk g [u,nI most,zI fl,.bool (gone)] 186],[],[10],fun vs12=>True,fun vs12=>[blk g [(vs12 10),nI most,zI fl,.bool (gone)] 186],none⟩] [] hs .n (.c (.s (.s .z)) (.c .z .n)) (.c .z .n) (by kernel_rfl) ⟨rfl,⟨(.c .z (.c .z .n)),by kernel_rfl,fun _=>rfl,rfl,rfl⟩,⟨?_,?_,?_,?_,trivial⟩,?_⟩
  ·
   intro a_ w_ R_ rest_ vs12 hm hs ht hx
   have hs0:=hs.bare
   refine zX hs rfl (hm.own (List.mem_append.2 (.inr ((hx 13 (zK 14 _ (by kernel_rfl))).1 _ (List.Mem.head _))))) .z isAgg184 rfl ?_;clear hs;intro a w hs
   exact wpList_nil ⟨rfl,_,_,hs0,(.c .r),hs,rfl⟩
  ·
   intro a_ w_ R_ rest_ vs12 hm hs ht hx
   have hs0:=hs.bare
   refine zIM (cs:=[zI x.t,zI x.t,zI x.tm,x.v]) hs (.c .n) (.c rfl .n) underlying184 (ie:=Tryz.t193) rfl rfl rfl rfl (by decide) (by decide) rfl (by decide) rfl rfl rfl ?_;clear hs;intro g13 a w hs
   exact wpList_nil ⟨rfl,_,_,hs0,(.c .r),hs,rfl⟩
  ·
   intro a_ w_ R_ rest_ vs12 hm hs ht hx
   have t9:=ht 9 (zK 14 _ (by kernel_rfl))
   have e9:_ = some (vs12 9):=t9.val rfl
   rw [show vs12 9 = .slice (some ⟨(zCs (vs12 9)),0,none⟩) 1 1 from t9.2.1] at e9
   replace hs:=hs.learn e9
   have hs0:=hs.bare
   refine zM hs (.c rfl (.c rfl (.c rfl .n))) call116 (.c .z (.c .z .n)) (zJd (x:=x) (hs.mem.del .z) (hs.mem.del (.s .z)) (hs.mem.ndX (.c .z (.c .z .n))) (by omega) hiv hxs (by omega)) rfl ?_;clear hs;rintro v14 _ a w rfl hs
   exact wpList_nil ⟨rfl,_,_,hs0,(.c (.c (.c .r))),hs,trivial⟩
  ·
   intro a_ w_ R_ rest_ vs12 hm hs ht hx
   have t10:=ht 10 (zK 14 _ (by kernel_rfl))
   have e10:_ = some (vs12 10):=t10.val rfl
   replace hs:=hs.learn e10
   have hs0:=hs.bare
   refine zBX hs rfl rfl .z .z (zL (hm.own (List.mem_append.2 (.inr ((ht 10 (zK 14 _ (by kernel_rfl))).2.2 (zHp (n:=14) (by kernel_rfl)) _ (List.Mem.head _)))))).isSl.one sizeOf184 ?_;clear hs;intro a w hs
   exact wpList_nil ⟨rfl,.tuple #[],_,hs0,(.c (.c .r)),hs,trivial⟩
  clear hs w a;intro vs12 a w hs hf
  generalize vs12 10 = v15 at hs
  clear hf
  revert a w hs
  refine goE 0 [] [0] .n ?_
  intro a w hs
  refine zS [.p [] [],.p [0] [],.p [1] [],.p [2] [0],.v [3] (nI ((zCI l (zAq (sns l) x.t) x).length)),.p [] [],.p [5] [],.p [6] [],.p [7] [0],.p [8,4] []] [9] hs .n (.c (.s (.s .z)) .n) (by kernel_rfl) ⟨rfl,fun _ _ _ _ hm hs K=>zAD hs rfl (zL (hm.del (.s .z))).isSl underlying184 rfl (vk K),rfl,⟨rfl,by kernel_rfl,fun _=>rfl,rfl,rfl,trivial⟩,fun _=>rfl,?_⟩
  refine goE 0 [] [70,0] .n ?_
  refine ifG rfl (fun c_17=>?_) (fun c_17=>?_)
  ·
   refine go 3 [] [8,7,6] .n ?_
   refine cl (·.drop (.c .z .n)) ?_
   refine cl (·.reorder (.c (.s .z) (.c .z .n))) ?_
   intro a w hs;first | exact zEz hs rfl rfl rfl rfl ⟨_,by unfold zG9 zHI;rw [if_pos (by omega),if_pos (by omega)],by unfold zGF zIQ zIO;rw [if_pos (by omega),if_pos (by omega),if_pos (by omega)]⟩ | exact zEz hs rfl rfl rfl rfl ⟨_,by unfold zG9 zHI;rw [if_neg (by omega),if_neg (by omega)],by unfold zGF zIQ zIO;rw [if_neg (by omega),if_neg (by omega),if_neg (by omega)]⟩
  refine go 6 [0] [76,72,71,0] (.c (.s (.s .z)) .n) ⟨rfl,?_⟩
  intro a w hs;refine zBL (j:=0) hs rfl rfl (zL (hs.mem.del (.s (.s .z)))) (by decide) (by omega) underlying184 sizeOf193 rfl ?_
  intro a w hs;refine zEI hs rfl (zL (hs.mem.del (.s (.s .z)))) (by omega) underlying193 rfl sizeOf2 (by decide) (o:=0 * 4 + 0) rfl rfl ?_
  intro a w hs;refine zBS (u:=zI (((zCI l (zAq (sns l) x.t) x).getD 0 default).t)) hs rfl (zL (hs.mem.del (.s (.s .z)))) ((zCK zBv (zCI l (zAq (sns l) x.t) x) 0 0 (by omega) (by decide)).trans rfl) isAgg2 rfl ?_
  refine goL 11 [0,0,0] [88,84,0] (.c .z .n) ⟨rfl,rfl,rfl,?_⟩
  intro a w hs;refine zM hs (.c rfl (.c rfl (.c rfl .n))) call117 (.c (.s (.s .z)) .n) (zJw (hs.mem.del (.s (.s .z))) (by omega) hiK (by omega)) rfl ?_;clear hs w a;rintro v18 _ a w rfl hs
  revert a w hs
  refine goL 2 [] [91,89,0] .n ?_
  intro a w hs;refine zBX hs rfl rfl (.s .z) .z (zL (hs.mem.del .z)).isSl.one sizeOf184 ?_
  refine goL 7 [0] [8,7,6] (.c .z .n) ⟨rfl,?_⟩
  refine cl (·.drop (.c (.s (.s .z)) .n)) ?_
  intro a w hs;first | exact zEz hs rfl rfl rfl rfl ⟨_,by unfold zG9 zHI;rw [if_pos (by omega),if_pos (by omega)],by unfold zGF zIQ zIO;rw [if_pos (by omega),if_pos (by omega),if_pos (by omega)]⟩ | exact zEz hs rfl rfl rfl rfl ⟨_,by unfold zG9 zHI;rw [if_neg (by omega),if_neg (by omega)],by unfold zGF zIQ zIO;rw [if_neg (by omega),if_neg (by omega),if_neg (by omega)]⟩
 rw [c_2] at hs
 revert a w hs
 refine go 9 [] [9,5,0,1] .n ?_
 by_cases kz:zAq (sns l) x.t = 0
 ·
  intro a w hs
  refine zS [.p [] [],.v [0] (.bool (true)),.p [1] [],.p [2] [],.p [3,2] [],.p [4,2] [],.p [5,2] [0],.v [6,2] (nI l.length),.p [2] [],.p [8,2] [],.p [9,2] [],.p [10,2] [0],.v [11,7,2] (.bool (false)),.p [12,2] [],.p [13] []] [14] hs .n (.c .z .n) (by kernel_rfl) ⟨fun _ _ _ _ hm hs K=>zCi hs rfl rfl rfl (fun a w hs=>wpList_nil (K _ _ (by rw [show ((((zAq (sns l) x.t:Nat):Int):Int) == 0) = true from by rw [beq_iff_eq];omega] at hs;exact hs))),rfl,fun _ _ _ _ hm hs K=>zF hs rfl rfl rfl (zAD hs rfl (zL (hm.del (.s (.s .z)))).isSl underlying184 rfl (vk K)),rfl,fun _ _ _ _ hm hs K=>zF hs rfl rfl rfl (zCi hs rfl rfl rfl (fun a w hs=>wpList_nil (K _ _ (by rw [show ((((l.length:Nat):Int):Int) == ((most:Nat):Int)) = false from by rw [beq_eq_false_iff_ne];intro h;exact hz ⟨by omega,by omega⟩] at hs;exact hs)))),⟨rfl,by kernel_rfl,fun _=>rfl,rfl,rfl,trivial⟩,fun _=>rfl,?_⟩
  refine goE 1 [] [9,5,0,1] .n ?_
  intro a w hs
  refine zAS [.p [] [],.p [] [],.p [1] [],.p [2] [],.y [3] u [] [] [] fun vs20=>[],.p [] [],.p [] [],.p [] [0],.p [7,6] [],.x [8] ⟨[],[],[],fun vs20=>vs20 9 = .slice (some ⟨(zCs (vs20 9)),0,none⟩) 1 1,fun vs20=>[blk (zCs (vs20 9)) [zI x.t,zI x.t,zI x.tm,x.v] 193],none⟩,.x [5,4] ⟨[row u 193 4 l.length (l.flatMap riV)],[9],[],fun vs20=>True,fun vs20=>[row (vs20 10) 193 4 ((zCI l (zAq (sns l) x.t) x).length) ((zCI l (zAq (sns l) x.t) x).flatMap riV)],none⟩,.p [0] [],.p [11] [],.x [12] ⟨[blk g [u,nI most,zI fl,.bool (gone)] 186],[],[10],fun vs20=>True,fun vs20=>[blk g [(vs20 10),nI most,zI fl,.bool (gone)] 186],none⟩] [] hs .n (.c (.s (.s .z)) (.c .z .n)) (.c .z .n) (by kernel_rfl) ⟨rfl,⟨(.c .z (.c .z .n)),by kernel_rfl,fun _=>rfl,rfl,rfl⟩,⟨?_,?_,?_,?_,trivial⟩,?_⟩
  ·
   intro a_ w_ R_ rest_ vs20 hm hs ht hx
   have hs0:=hs.bare
   refine zX hs rfl (hm.own (List.mem_append.2 (.inr ((hx 13 (zK 14 _ (by kernel_rfl))).1 _ (List.Mem.head _))))) .z isAgg184 rfl ?_;clear hs;intro a w hs
   exact wpList_nil ⟨rfl,_,_,hs0,(.c .r),hs,rfl⟩
  ·
   intro a_ w_ R_ rest_ vs20 hm hs ht hx
   have hs0:=hs.bare
   refine zIM (cs:=[zI x.t,zI x.t,zI x.tm,x.v]) hs (.c .n) (.c rfl .n) underlying184 (ie:=Tryz.t193) rfl rfl rfl rfl (by decide) (by decide) rfl (by decide) rfl rfl rfl ?_;clear hs;intro g21 a w hs
   exact wpList_nil ⟨rfl,_,_,hs0,(.c .r),hs,rfl⟩
  ·
   intro a_ w_ R_ rest_ vs20 hm hs ht hx
   have t9:=ht 9 (zK 14 _ (by kernel_rfl))
   have e9:_ = some (vs20 9):=t9.val rfl
   rw [show vs20 9 = .slice (some ⟨(zCs (vs20 9)),0,none⟩) 1 1 from t9.2.1] at e9
   replace hs:=hs.learn e9
   have hs0:=hs.bare
   refine zM hs (.c rfl (.c rfl (.c rfl .n))) call116 (.c .z (.c .z .n)) (zJd (x:=x) (hs.mem.del .z) (hs.mem.del (.s .z)) (hs.mem.ndX (.c .z (.c .z .n))) (by omega) hiv hxs (by omega)) rfl ?_;clear hs;rintro v22 _ a w rfl hs
   exact wpList_nil ⟨rfl,_,_,hs0,(.c (.c (.c .r))),hs,trivial⟩
  ·
   intro a_ w_ R_ rest_ vs20 hm hs ht hx
   have t10:=ht 10 (zK 14 _ (by kernel_rfl))
   have e10:_ = some (vs20 10):=t10.val rfl
   replace hs:=hs.learn e10
   have hs0:=hs.bare
   refine zBX hs rfl rfl .z .z (zL (hm.own (List.mem_append.2 (.inr ((ht 10 (zK 14 _ (by kernel_rfl))).2.2 (zHp (n:=14) (by kernel_rfl)) _ (List.Mem.head _)))))).isSl.one sizeOf184 ?_;clear hs;intro a w hs
   exact wpList_nil ⟨rfl,.tuple #[],_,hs0,(.c (.c .r)),hs,trivial⟩
  clear hs w a;intro vs20 a w hs hf
  generalize vs20 10 = v23 at hs
  clear hf
  revert a w hs
  refine goE 0 [] [0] .n ?_
  intro a w hs
  refine zS [.p [] [],.p [0] [],.p [1] [],.p [2] [0],.v [3] (nI ((zCI l (zAq (sns l) x.t) x).length)),.p [] [],.p [5] [],.p [6] [],.p [7] [0],.p [8,4] []] [9] hs .n (.c (.s (.s .z)) .n) (by kernel_rfl) ⟨rfl,fun _ _ _ _ hm hs K=>zAD hs rfl (zL (hm.del (.s .z))).isSl underlying184 rfl (vk K),rfl,⟨rfl,by kernel_rfl,fun _=>rfl,rfl,rfl,trivial⟩,fun _=>rfl,?_⟩
  refine goE 0 [] [70,0] .n ?_
  refine ifG rfl (fun c_25=>?_) (fun c_25=>?_)
  ·
   refine go 3 [] [8,7,6] .n ?_
   refine cl (·.drop (.c .z .n)) ?_
   refine cl (·.reorder (.c (.s .z) (.c .z .n))) ?_
   intro a w hs;first | exact zEz hs rfl rfl rfl rfl ⟨_,by unfold zG9 zHI;rw [if_pos (by omega),if_pos (by omega)],by unfold zGF zIQ zIO;rw [if_pos (by omega),if_pos (by omega),if_pos (by omega)]⟩ | exact zEz hs rfl rfl rfl rfl ⟨_,by unfold zG9 zHI;rw [if_neg (by omega),if_neg (by omega)],by unfold zGF zIQ zIO;rw [if_neg (by omega),if_neg (by omega),if_neg (by omega)]⟩
  refine go 6 [0] [76,72,71,0] (.c (.s (.s .z)) .n) ⟨rfl,?_⟩
  intro a w hs;refine zBL (j:=0) hs rfl rfl (zL (hs.mem.del (.s (.s .z)))) (by decide) (by omega) underlying184 sizeOf193 rfl ?_
  intro a w hs;refine zEI hs rfl (zL (hs.mem.del (.s (.s .z)))) (by omega) underlying193 rfl sizeOf2 (by decide) (o:=0 * 4 + 0) rfl rfl ?_
  intro a w hs;refine zBS (u:=zI (((zCI l (zAq (sns l) x.t) x).getD 0 default).t)) hs rfl (zL (hs.mem.del (.s (.s .z)))) ((zCK zBv (zCI l (zAq (sns l) x.t) x) 0 0 (by omega) (by decide)).trans rfl) isAgg2 rfl ?_
  refine goL 11 [0,0,0] [88,84,0] (.c .z .n) ⟨rfl,rfl,rfl,?_⟩
  intro a w hs;refine zM hs (.c rfl (.c rfl (.c rfl .n))) call117 (.c (.s (.s .z)) .n) (zJw (hs.mem.del (.s (.s .z))) (by omega) hiK (by omega)) rfl ?_;clear hs w a;rintro v26 _ a w rfl hs
  revert a w hs
  refine goL 2 [] [91,89,0] .n ?_
  intro a w hs;refine zBX hs rfl rfl (.s .z) .z (zL (hs.mem.del .z)).isSl.one sizeOf184 ?_
  refine goL 7 [0] [8,7,6] (.c .z .n) ⟨rfl,?_⟩
  refine cl (·.drop (.c (.s (.s .z)) .n)) ?_
  intro a w hs;first | exact zEz hs rfl rfl rfl rfl ⟨_,by unfold zG9 zHI;rw [if_pos (by omega),if_pos (by omega)],by unfold zGF zIQ zIO;rw [if_pos (by omega),if_pos (by omega),if_pos (by omega)]⟩ | exact zEz hs rfl rfl rfl rfl ⟨_,by unfold zG9 zHI;rw [if_neg (by omega),if_neg (by omega)],by unfold zGF zIQ zIO;rw [if_neg (by omega),if_neg (by omega),if_neg (by omega)]⟩
 intro a w hs
 refine zS [.p [] [],.v [0] (.bool (false)),.p [1] [],.p [2] [],.p [3,2] [],.p [4,2] [],.p [5,2] [],.p [6,2] [],.p [2] [],.p [8,2] [],.p [9,2] [],.p [10,2] [],.v [11,7,2] undef,.p [12,2] [],.p [13] []] [14] hs .n .n (by kernel_rfl) ⟨fun _ _ _ _ hm hs K=>zCi hs rfl rfl rfl (fun a w hs=>wpList_nil (K _ _ (by rw [show ((((zAq (sns l) x.t:Nat):Int):Int) == 0) = false from by rw [beq_eq_false_iff_ne];omega] at hs;exact hs))),fun _ _ _ _ hm hs K=>zBm hs rfl rfl rfl rfl rfl (vk K),⟨rfl,by kernel_rfl,fun _=>rfl,rfl,rfl,trivial⟩,fun _=>rfl,?_⟩
 refine goE 1 [] [9,5,0,1] .n ?_
 intro a w hs
 refine zAS [.p [] [],.p [] [],.p [1] [],.p [2] [],.y [3] u [] [] [] fun vs28=>[],.p [] [],.p [] [],.p [] [0],.p [7,6] [],.x [8] ⟨[],[],[],fun vs28=>vs28 9 = .slice (some ⟨(zCs (vs28 9)),0,none⟩) 1 1,fun vs28=>[blk (zCs (vs28 9)) [zI x.t,zI x.t,zI x.tm,x.v] 193],none⟩,.x [5,4] ⟨[row u 193 4 l.length (l.flatMap riV)],[9],[],fun vs28=>True,fun vs28=>[row (vs28 10) 193 4 ((zCI l (zAq (sns l) x.t) x).length) ((zCI l (zAq (sns l) x.t) x).flatMap riV)],none⟩,.p [0] [],.p [11] [],.x [12] ⟨[blk g [u,nI most,zI fl,.bool (gone)] 186],[],[10],fun vs28=>True,fun vs28=>[blk g [(vs28 10),nI most,zI fl,.bool (gone)] 186],none⟩] [] hs .n (.c (.s (.s .z)) (.c .z .n)) (.c .z .n) (by kernel_rfl) ⟨rfl,⟨(.c .z (.c .z .n)),by kernel_rfl,fun _=>rfl,rfl,rfl⟩,⟨?_,?_,?_,?_,trivial⟩,?_⟩
 ·
  intro a_ w_ R_ rest_ vs28 hm hs ht hx
  have hs0:=hs.bare
  refine zX hs rfl (hm.own (List.mem_append.2 (.inr ((hx 13 (zK 14 _ (by kernel_rfl))).1 _ (List.Mem.head _))))) .z isAgg184 rfl ?_;clear hs;intro a w hs
  exact wpList_nil ⟨rfl,_,_,hs0,(.c .r),hs,rfl⟩
 ·
  intro a_ w_ R_ rest_ vs28 hm hs ht hx
  have hs0:=hs.bare
  refine zIM (cs:=[zI x.t,zI x.t,zI x.tm,x.v]) hs (.c .n) (.c rfl .n) underlying184 (ie:=Tryz.t193) rfl rfl rfl rfl (by decide) (by decide) rfl (by decide) rfl rfl rfl ?_;clear hs;intro g29 a w hs
  exact wpList_nil ⟨rfl,_,_,hs0,(.c .r),hs,rfl⟩
 ·
  intro a_ w_ R_ rest_ vs28 hm hs ht hx
  have t9:=ht 9 (zK 14 _ (by kernel_rfl))
  have e9:_ = some (vs28 9):=t9.val rfl
  rw [show vs28 9 = .slice (some ⟨(zCs (vs28 9)),0,none⟩) 1 1 from t9.2.1] at e9
  replace hs:=hs.learn e9
  have hs0:=hs.bare
  refine zM hs (.c rfl (.c rfl (.c rfl .n))) call116 (.c .z (.c .z .n)) (zJd (x:=x) (hs.mem.del .z) (hs.mem.del (.s .z)) (hs.mem.ndX (.c .z (.c .z .n))) (by omega) hiv hxs (by omega)) rfl ?_;clear hs;rintro v30 _ a w rfl hs
  exact wpList_nil ⟨rfl,_,_,hs0,(.c (.c (.c .r))),hs,trivial⟩
 ·
  intro a_ w_ R_ rest_ vs28 hm hs ht hx
  have t10:=ht 10 (zK 14 _ (by kernel_rfl))
  have e10:_ = some (vs28 10):=t10.val rfl
  replace hs:=hs.learn e10
  have hs0:=hs.bare
  refine zBX hs rfl rfl .z .z (zL (hm.own (List.mem_append.2 (.inr ((ht 10 (zK 14 _ (by kernel_rfl))).2.2 (zHp (n:=14) (by kernel_rfl)) _ (List.Mem.head _)))))).isSl.one sizeOf184 ?_;clear hs;intro a w hs
  exact wpList_nil ⟨rfl,.tuple #[],_,hs0,(.c (.c .r)),hs,trivial⟩
 clear hs w a;intro vs28 a w hs hf
 generalize vs28 10 = v31 at hs
 clear hf
 revert a w hs
 refine goE 0 [] [0] .n ?_
 intro a w hs
 refine zS [.p [] [],.p [0] [],.p [1] [],.p [2] [0],.v [3] (nI ((zCI l (zAq (sns l) x.t) x).length)),.p [] [],.p [5] [],.p [6] [],.p [7] [0],.p [8,4] []] [9] hs .n (.c (.s (.s .z)) .n) (by kernel_rfl) ⟨rfl,fun _ _ _ _ hm hs K=>zAD hs rfl (zL (hm.del (.s .z))).isSl underlying184 rfl (vk K),rfl,⟨rfl,by kernel_rfl,fun _=>rfl,rfl,rfl,trivial⟩,fun _=>rfl,?_⟩
 refine goE 0 [] [70,0] .n ?_
 refine ifG rfl (fun c_33=>?_) (fun c_33=>?_)
 ·
  refine go 3 [] [8,7,6] .n ?_
  refine cl (·.drop (.c .z .n)) ?_
  refine cl (·.reorder (.c (.s .z) (.c .z .n))) ?_
  intro a w hs;first | exact zEz hs rfl rfl rfl rfl ⟨_,by unfold zG9 zHI;rw [if_pos (by omega),if_pos (by omega)],by unfold zGF zIQ zIO;rw [if_pos (by omega),if_pos (by omega),if_pos (by omega)]⟩ | exact zEz hs rfl rfl rfl rfl ⟨_,by unfold zG9 zHI;rw [if_neg (by omega),if_neg (by omega)],by unfold zGF zIQ zIO;rw [if_neg (by omega),if_neg (by omega),if_neg (by omega)]⟩
 refine go 6 [0] [76,72,71,0] (.c (.s (.s .z)) .n) ⟨rfl,?_⟩
 intro a w hs;refine zBL (j:=0) hs rfl rfl (zL (hs.mem.del (.s (.s .z)))) (by decide) (by omega) underlying184 sizeOf193 rfl ?_
 intro a w hs;refine zEI hs rfl (zL (hs.mem.del (.s (.s .z)))) (by omega) underlying193 rfl sizeOf2 (by decide) (o:=0 * 4 + 0) rfl rfl ?_
 intro a w hs;refine zBS (u:=zI (((zCI l (zAq (sns l) x.t) x).getD 0 default).t)) hs rfl (zL (hs.mem.del (.s (.s .z)))) ((zCK zBv (zCI l (zAq (sns l) x.t) x) 0 0 (by omega) (by decide)).trans rfl) isAgg2 rfl ?_
 refine goL 11 [0,0,0] [88,84,0] (.c .z .n) ⟨rfl,rfl,rfl,?_⟩
 intro a w hs;refine zM hs (.c rfl (.c rfl (.c rfl .n))) call117 (.c (.s (.s .z)) .n) (zJw (hs.mem.del (.s (.s .z))) (by omega) hiK (by omega)) rfl ?_;clear hs w a;rintro v34 _ a w rfl hs
 revert a w hs
 refine goL 2 [] [91,89,0] .n ?_
 intro a w hs;refine zBX hs rfl rfl (.s .z) .z (zL (hs.mem.del .z)).isSl.one sizeOf184 ?_
 refine goL 7 [0] [8,7,6] (.c .z .n) ⟨rfl,?_⟩
 refine cl (·.drop (.c (.s (.s .z)) .n)) ?_
 intro a w hs;first | exact zEz hs rfl rfl rfl rfl ⟨_,by unfold zG9 zHI;rw [if_pos (by omega),if_pos (by omega)],by unfold zGF zIQ zIO;rw [if_pos (by omega),if_pos (by omega),if_pos (by omega)]⟩ | exact zEz hs rfl rfl rfl rfl ⟨_,by unfold zG9 zHI;rw [if_neg (by omega),if_neg (by omega)],by unfold zGF zIQ zIO;rw [if_neg (by omega),if_neg (by omega),if_neg (by omega)]⟩
end Go.Proofs.YtemnjodhidlfpaaGreat
