import Derived.Test.YtljpfgacpofkpaaGreatQWring
import Derived.Test.YtljpfgacpofkpaaGreatQSxStos
import Derived.Test.YtljpfgacpofkpaaGreatQSxBasB
import Derived.Test.YtljpfgacpofkpaaGreatQG14
set_option linter.unusedVariables false
set_option linter.unusedSimpArgs false
namespace Go.Proofs.YtljpfgacpofkpaaGreat
open Tryz
open Go Go.Sx Go.RowKit
set_option maxRecDepth 4000
set_option maxHeartbeats 1000000
theorem zQV (t tm:Int) (v:Value) (l:List zS) (w0:World) (hc:Rd w0 [] v 9 l.length (l.flatMap zBI)) (hl:l.length≤100000):Calls Tryz.prog 88 #[.agg #[zI t,zI tm,v]] w0 (Ret w0 [] λu N=>∃ v',u = .agg #[.int .i64 t,.int .i64 tm,v']∧N=[row v' 48 9 l.length (l.flatMap zBI)]):=by
 refine zG (F0:=[(0,.agg #[zI t,zI tm,v])]) func88 rfl rfl rfl (.c .n) (Mem.nil _) ?_
 refine go 2 [0] [2,1] .n (λg1=>λg2=>?_)
 intro a w hs;refine zQ3 hs underlying44 rfl ?_ ⟨_,sizeOf48⟩;intro g3
 refine goL 2 [0] [5,3,2,1] (.c (.s (.s .z)) .n) ⟨rfl,?_⟩
 refine cl (·.toRow (size:=9) (m:=0) (.s .z) rfl (by decide)) ?_
 intro a w hs;refine zBH (size:=9) (bytes:=64) hs rfl rfl .z (hs.rd0 hc) (zSz _) underlying44 (i:=Tryz.t48) rfl rfl rfl rfl rfl (by decide) (by omega) (by simp only [maxLen];omega) rfl ?_;intro v4
 refine cl (·.rerow .z (m':=l.length) (xs':=(l.flatMap zBI)) (by omega) (by simp)) ?_
 refine goL 1 [] [7,6,2,1] .n ?_
 intro a w hs;refine zBh hs rfl rfl (.s .z) (.s (.s .z)) (zK (hs.mem.del .z)).isSl.one sizeOf44 ?_
 refine goL 1 [0] [8,2] (.c .z .n) ⟨rfl,?_⟩
 intro a w hs;refine zAU hs rfl rfl (.s (.s .z)) (.z (.c (.c (.c .n)))) (zF rfl (zF rfl (zF (zK (hs.mem.del (.s .z))).isSl.one zAX))) sizeOf46 rfl ?_
 refine goL 0 [] [2] .n ?_
 intro a w hs;exact zI0 hs rfl rfl .z (.z (.c (.c (.c .n)))) isAgg46 sizeOf46 (.c (.s .z) (.c .z .n)) ⟨_,rfl,rfl⟩
theorem zEs (b:Bool) (why e ge:Nat) (te:Nat) (w0:World) (hb:(blk ge [nI e] te).p w0):Calls Tryz.prog 127 #[.bool b,nI why,pt ge 0] w0 (Ret w0 [ge] λu N=>u = .tuple #[]∧N=[blk ge [nI (zFZ e b why)] te]):=by
 refine zG (F0:=[(0,.bool (b)),(1,nI why),(2,pt ge 0)]) func127 rfl rfl rfl (.c (.c (.c .n))) (zAq hb) ?_
 refine go 3 [0] [7,0,1,2] (.c .z .n) ⟨rfl,?_⟩
 intro a w hs;refine zX (b:=(((e:Nat):Int):Int)==0) (λc_1=>?_) (λc_1=>?_)
 ·
  rw [c_1] at hs
  replace c_1:=eq_of_beq c_1
  revert a w hs
  refine go 2 [] [9,1,2] .n ?_
  refine ifG rfl (λc_2=>?_) (λc_2=>?_)
  ·
   refine go 2 [0] [] (.c .z .n) ⟨rfl,?_⟩
   intro a w hs;exact zIo hs rfl ⟨rfl,by first | (rw [zS8 (by omega) (by assumption)]<;>rfl) | (rw [zLg (by omega)]<;>rfl) | (rw [zRU (by assumption)]<;>rfl)⟩
  refine go 0 [] [] .n ?_
  intro a w hs;exact zIo hs rfl ⟨rfl,by first | (rw [zS8 (by omega) (by assumption)]<;>rfl) | (rw [zLg (by omega)]<;>rfl) | (rw [zRU (by assumption)]<;>rfl)⟩
 rw [c_1] at hs
 replace c_1:=zAW c_1
 revert a w hs
 refine go 3 [] [] .n ?_
 intro a w hs;exact zIo hs rfl ⟨rfl,by first | (rw [zS8 (by omega) (by assumption)]<;>rfl) | (rw [zLg (by omega)]<;>rfl) | (rw [zRU (by assumption)]<;>rfl)⟩
theorem zVt (p g:Nat) (u:Value) (l:List RI) (most:Nat) (fl:Int) (gone:Bool) (N:Nat→Nat) (k:Int) (w0:World) (hp:(blk p [pt g 0,nI most,nI (N 0),nI (N 1),nI (N 2),nI (N 3),nI (N 4),nI (N 5),nI (N 6),nI (N 7),nI (N 8),nI (N 9),nI (N 10),nI (N 11),nI (N 12),nI (N 13),nI (N 14),nI (N 15),nI (N 16),nI (N 17)] 155).p w0) (hg:(blk g [u,nI most,zI fl,.bool (gone)] 200).p w0) (hu:Rd w0 [] u 4 l.length (l.flatMap riV)) (hrw:(rws 48 l).p w0) (ho:Oks (sns l) most):Calls Tryz.prog 128 #[pt p 0,.int .i64 k] w0 (zAh w0 (.bool (stl (sns l) most fl gone k))):=by
 have hiv:=zEH hrw
 have hsr:=ho.srt
 have hll:l.length≤100000:=by have:=ho.le;have:=ho.m64;rw [zAO] at *;omega
 have hm64:=ho.m64
 refine zG (F0:=[(0,pt p 0),(1,zI k)]) func128 rfl rfl rfl (.c (.c .n)) (Mem.nil _) ?_
 refine go 4 [] [10,0,1] .n ?_
 intro a w hs;refine zAC hs rfl (hs.mem.keep hp (by simp [zN,blk])) .z isAgg151 rfl ?_
 intro a w hs;refine zB (v:=.tuple #[zI fl,.bool (gone)]) hs (.c rfl .n) call185 (zS6 g _ l most fl gone _ (hs.mem.keep hg (by simp [zN,blk]))) rfl ?_
 refine goL 5 [] [6,5,0,1] .n ?_
 by_cases cg:gone=true
 ·
  intro a w hs;rw [cg] at hs
  by_cases ck:k≤fl
  ·
   refine zO [.p [] [],.p [0] [],.p [1] [],.p [1] [],.v [3,2,1] (.bool (true)),.p [4,1] [],.p [5] [],.p [6] [],.p [7,6] [],.p [8,6] [],.p [9,6] [],.p [10,6] [],.p [6] [],.p [12,6] [],.p [13,6] [],.p [14,6] [],.v [15,11,6] undef,.p [16,6] [],.p [17] [],.p [18,17] [],.p [19,17] [],.p [20,17] [],.p [17] [],.p [22,21,17] [],.v [23,17] undef,.p [24,17,6] [],.p [25,6] [],.p [26] []] [27] hs .n .n (by kernel_rfl) ⟨λ_ _ _ _ hm hs K=>zC hs rfl rfl rfl (zJY hs rfl rfl rfl (λa w hs=>wpList_nil (K _ _ (by rw [show (decide (k≤fl))=true from decide_eq_true ck] at hs;exact hs)))),λ_ _ _ _ hm hs K=>zCV hs rfl rfl rfl rfl rfl (vk K),λ_ _ _ _ hm hs K=>zSU hs rfl rfl rfl rfl (vk K),⟨rfl,by kernel_rfl,λ_=>rfl,rfl,rfl,trivial⟩,λ_=>rfl,?_⟩
   refine goE 0 [] [4] .n ?_
   intro a w hs;exact fin hs rfl rfl ⟨congrArg Value.bool (by unfold stl;rw [zAO];simp_all),rfl⟩
  by_cases cl:l.length=most
  ·
   by_cases cu:zAF (sns l) k=0
   ·
    refine zO [.p [] [],.p [0] [],.p [1] [],.p [1] [],.v [3,2,1] (.bool (false)),.p [4,1] [],.p [5] [],.p [6] [],.p [7,6] [],.p [8,6] [],.v [9,6] (pt g 0),.v [10,6] (nI l.length),.p [6] [],.p [12,6] [],.p [13,6] [],.v [14,6] (nI most),.v [15,11,6] (.bool (true)),.p [16,6] [],.p [17] [],.p [18,17] [],.p [19,17] [],.v [20,17] (pt g 0),.p [17] [],.v [22,21,17] (nI (zAF (sns l) k)),.v [23,17] (.bool (true)),.p [24,17,6] [],.p [25,6] [],.p [26] []] [27] hs .n .n (by kernel_rfl) ⟨λ_ _ _ _ hm hs K=>zC hs rfl rfl rfl (zJY hs rfl rfl rfl (λa w hs=>wpList_nil (K _ _ (by rw [show (decide (k≤fl))=false from decide_eq_false ck] at hs;exact hs)))),λ_ _ _ _ hm hs K=>zC hs rfl rfl rfl (zAC hs rfl (hm.keep hp (by simp [zN,blk])) .z isAgg151 rfl (vk K)),λ_ _ _ _ hm hs K=>zC hs rfl rfl rfl (zB (v:=nI l.length) hs (.c rfl .n) call123 (zCf g _ l most fl gone _ (hm.rd0 hu) (hm.keep hg (by simp [zN,blk])) hsr (by omega) hiv) rfl (vk K)),λ_ _ _ _ hm hs K=>zC hs rfl rfl rfl (zAC hs rfl (hm.keep hp (by simp [zN,blk])) (.s .z) isAgg3 rfl (vk K)),λ_ _ _ _ hm hs K=>zC hs rfl rfl rfl (zCp hs rfl rfl rfl (λa w hs=>wpList_nil (K _ _ (by rw [show ((((l.length:Nat):Int):Int)==((most:Nat):Int))=true from by rw [beq_iff_eq];omega] at hs;exact hs)))),λ_ _ _ _ hm hs K=>zC hs rfl rfl rfl (zAC hs rfl (hm.keep hp (by simp [zN,blk])) .z isAgg151 rfl (vk K)),λ_ _ _ _ hm hs K=>zC hs rfl rfl rfl (zB (v:=nI (zAF (sns l) k)) hs (.c rfl (.c rfl .n)) call186 (zEq g _ l most fl gone k _ (hm.rd0 hu) (hm.keep hg (by simp [zN,blk])) hsr (by omega) hiv) rfl (vk K)),λ_ _ _ _ hm hs K=>zC hs rfl rfl rfl (zCp hs rfl rfl rfl (λa w hs=>wpList_nil (K _ _ (by rw [show ((((zAF (sns l) k:Nat):Int):Int)==0)=true from by rw [beq_iff_eq];omega] at hs;exact hs)))),⟨rfl,by kernel_rfl,λ_=>rfl,rfl,rfl,trivial⟩,λ_=>rfl,?_⟩
    refine goE 0 [] [4] .n ?_
    intro a w hs;exact fin hs rfl rfl ⟨congrArg Value.bool (by unfold stl;rw [zAO];simp_all),rfl⟩
   refine zO [.p [] [],.p [0] [],.p [1] [],.p [1] [],.v [3,2,1] (.bool (false)),.p [4,1] [],.p [5] [],.p [6] [],.p [7,6] [],.p [8,6] [],.v [9,6] (pt g 0),.v [10,6] (nI l.length),.p [6] [],.p [12,6] [],.p [13,6] [],.v [14,6] (nI most),.v [15,11,6] (.bool (true)),.p [16,6] [],.p [17] [],.p [18,17] [],.p [19,17] [],.v [20,17] (pt g 0),.p [17] [],.v [22,21,17] (nI (zAF (sns l) k)),.v [23,17] (.bool (false)),.p [24,17,6] [],.p [25,6] [],.p [26] []] [27] hs .n .n (by kernel_rfl) ⟨λ_ _ _ _ hm hs K=>zC hs rfl rfl rfl (zJY hs rfl rfl rfl (λa w hs=>wpList_nil (K _ _ (by rw [show (decide (k≤fl))=false from decide_eq_false ck] at hs;exact hs)))),λ_ _ _ _ hm hs K=>zC hs rfl rfl rfl (zAC hs rfl (hm.keep hp (by simp [zN,blk])) .z isAgg151 rfl (vk K)),λ_ _ _ _ hm hs K=>zC hs rfl rfl rfl (zB (v:=nI l.length) hs (.c rfl .n) call123 (zCf g _ l most fl gone _ (hm.rd0 hu) (hm.keep hg (by simp [zN,blk])) hsr (by omega) hiv) rfl (vk K)),λ_ _ _ _ hm hs K=>zC hs rfl rfl rfl (zAC hs rfl (hm.keep hp (by simp [zN,blk])) (.s .z) isAgg3 rfl (vk K)),λ_ _ _ _ hm hs K=>zC hs rfl rfl rfl (zCp hs rfl rfl rfl (λa w hs=>wpList_nil (K _ _ (by rw [show ((((l.length:Nat):Int):Int)==((most:Nat):Int))=true from by rw [beq_iff_eq];omega] at hs;exact hs)))),λ_ _ _ _ hm hs K=>zC hs rfl rfl rfl (zAC hs rfl (hm.keep hp (by simp [zN,blk])) .z isAgg151 rfl (vk K)),λ_ _ _ _ hm hs K=>zC hs rfl rfl rfl (zB (v:=nI (zAF (sns l) k)) hs (.c rfl (.c rfl .n)) call186 (zEq g _ l most fl gone k _ (hm.rd0 hu) (hm.keep hg (by simp [zN,blk])) hsr (by omega) hiv) rfl (vk K)),λ_ _ _ _ hm hs K=>zC hs rfl rfl rfl (zCp hs rfl rfl rfl (λa w hs=>wpList_nil (K _ _ (by rw [show ((((zAF (sns l) k:Nat):Int):Int)==0)=false from by rw [beq_eq_false_iff_ne];omega] at hs;exact hs)))),⟨rfl,by kernel_rfl,λ_=>rfl,rfl,rfl,trivial⟩,λ_=>rfl,?_⟩
   refine goE 0 [] [4] .n ?_
   intro a w hs;exact fin hs rfl rfl ⟨congrArg Value.bool (by unfold stl;rw [zAO];simp_all),rfl⟩
  refine zO [.p [] [],.p [0] [],.p [1] [],.p [1] [],.v [3,2,1] (.bool (false)),.p [4,1] [],.p [5] [],.p [6] [],.p [7,6] [],.p [8,6] [],.v [9,6] (pt g 0),.v [10,6] (nI l.length),.p [6] [],.p [12,6] [],.p [13,6] [],.v [14,6] (nI most),.v [15,11,6] (.bool (false)),.p [16,6] [],.p [17] [],.p [18,17] [],.p [19,17] [],.p [20,17] [],.p [17] [],.p [22,21,17] [],.v [23,17] undef,.p [24,17,6] [],.p [25,6] [],.p [26] []] [27] hs .n .n (by kernel_rfl) ⟨λ_ _ _ _ hm hs K=>zC hs rfl rfl rfl (zJY hs rfl rfl rfl (λa w hs=>wpList_nil (K _ _ (by rw [show (decide (k≤fl))=false from decide_eq_false ck] at hs;exact hs)))),λ_ _ _ _ hm hs K=>zC hs rfl rfl rfl (zAC hs rfl (hm.keep hp (by simp [zN,blk])) .z isAgg151 rfl (vk K)),λ_ _ _ _ hm hs K=>zC hs rfl rfl rfl (zB (v:=nI l.length) hs (.c rfl .n) call123 (zCf g _ l most fl gone _ (hm.rd0 hu) (hm.keep hg (by simp [zN,blk])) hsr (by omega) hiv) rfl (vk K)),λ_ _ _ _ hm hs K=>zC hs rfl rfl rfl (zAC hs rfl (hm.keep hp (by simp [zN,blk])) (.s .z) isAgg3 rfl (vk K)),λ_ _ _ _ hm hs K=>zC hs rfl rfl rfl (zCp hs rfl rfl rfl (λa w hs=>wpList_nil (K _ _ (by rw [show ((((l.length:Nat):Int):Int)==((most:Nat):Int))=false from by rw [beq_eq_false_iff_ne];omega] at hs;exact hs)))),λ_ _ _ _ hm hs K=>zCV hs rfl rfl rfl rfl rfl (vk K),⟨rfl,by kernel_rfl,λ_=>rfl,rfl,rfl,trivial⟩,λ_=>rfl,?_⟩
  refine goE 0 [] [4] .n ?_
  intro a w hs;exact fin hs rfl rfl ⟨congrArg Value.bool (by unfold stl;rw [zAO];simp_all),rfl⟩
 intro a w hs;replace cg:=Bool.eq_false_iff.2 cg;rw [cg] at hs
 by_cases cl:l.length=most
 ·
  by_cases cu:zAF (sns l) k=0
  ·
   refine zO [.p [] [],.p [0] [],.p [1] [],.p [1] [],.v [3,2,1] undef,.p [4,1] [],.p [5] [],.p [6] [],.p [7,6] [],.p [8,6] [],.v [9,6] (pt g 0),.v [10,6] (nI l.length),.p [6] [],.p [12,6] [],.p [13,6] [],.v [14,6] (nI most),.v [15,11,6] (.bool (true)),.p [16,6] [],.p [17] [],.p [18,17] [],.p [19,17] [],.v [20,17] (pt g 0),.p [17] [],.v [22,21,17] (nI (zAF (sns l) k)),.v [23,17] (.bool (true)),.p [24,17,6] [],.p [25,6] [],.p [26] []] [27] hs .n .n (by kernel_rfl) ⟨λ_ _ _ _ hm hs K=>zCV hs rfl rfl rfl rfl rfl (vk K),λ_ _ _ _ hm hs K=>zC hs rfl rfl rfl (zAC hs rfl (hm.keep hp (by simp [zN,blk])) .z isAgg151 rfl (vk K)),λ_ _ _ _ hm hs K=>zC hs rfl rfl rfl (zB (v:=nI l.length) hs (.c rfl .n) call123 (zCf g _ l most fl gone _ (hm.rd0 hu) (hm.keep hg (by simp [zN,blk])) hsr (by omega) hiv) rfl (vk K)),λ_ _ _ _ hm hs K=>zC hs rfl rfl rfl (zAC hs rfl (hm.keep hp (by simp [zN,blk])) (.s .z) isAgg3 rfl (vk K)),λ_ _ _ _ hm hs K=>zC hs rfl rfl rfl (zCp hs rfl rfl rfl (λa w hs=>wpList_nil (K _ _ (by rw [show ((((l.length:Nat):Int):Int)==((most:Nat):Int))=true from by rw [beq_iff_eq];omega] at hs;exact hs)))),λ_ _ _ _ hm hs K=>zC hs rfl rfl rfl (zAC hs rfl (hm.keep hp (by simp [zN,blk])) .z isAgg151 rfl (vk K)),λ_ _ _ _ hm hs K=>zC hs rfl rfl rfl (zB (v:=nI (zAF (sns l) k)) hs (.c rfl (.c rfl .n)) call186 (zEq g _ l most fl gone k _ (hm.rd0 hu) (hm.keep hg (by simp [zN,blk])) hsr (by omega) hiv) rfl (vk K)),λ_ _ _ _ hm hs K=>zC hs rfl rfl rfl (zCp hs rfl rfl rfl (λa w hs=>wpList_nil (K _ _ (by rw [show ((((zAF (sns l) k:Nat):Int):Int)==0)=true from by rw [beq_iff_eq];omega] at hs;exact hs)))),⟨rfl,by kernel_rfl,λ_=>rfl,rfl,rfl,trivial⟩,λ_=>rfl,?_⟩
   refine goE 0 [] [4] .n ?_
   intro a w hs;exact fin hs rfl rfl ⟨congrArg Value.bool (by unfold stl;rw [zAO];simp_all),rfl⟩
  refine zO [.p [] [],.p [0] [],.p [1] [],.p [1] [],.v [3,2,1] undef,.p [4,1] [],.p [5] [],.p [6] [],.p [7,6] [],.p [8,6] [],.v [9,6] (pt g 0),.v [10,6] (nI l.length),.p [6] [],.p [12,6] [],.p [13,6] [],.v [14,6] (nI most),.v [15,11,6] (.bool (true)),.p [16,6] [],.p [17] [],.p [18,17] [],.p [19,17] [],.v [20,17] (pt g 0),.p [17] [],.v [22,21,17] (nI (zAF (sns l) k)),.v [23,17] (.bool (false)),.p [24,17,6] [],.p [25,6] [],.p [26] []] [27] hs .n .n (by kernel_rfl) ⟨λ_ _ _ _ hm hs K=>zCV hs rfl rfl rfl rfl rfl (vk K),λ_ _ _ _ hm hs K=>zC hs rfl rfl rfl (zAC hs rfl (hm.keep hp (by simp [zN,blk])) .z isAgg151 rfl (vk K)),λ_ _ _ _ hm hs K=>zC hs rfl rfl rfl (zB (v:=nI l.length) hs (.c rfl .n) call123 (zCf g _ l most fl gone _ (hm.rd0 hu) (hm.keep hg (by simp [zN,blk])) hsr (by omega) hiv) rfl (vk K)),λ_ _ _ _ hm hs K=>zC hs rfl rfl rfl (zAC hs rfl (hm.keep hp (by simp [zN,blk])) (.s .z) isAgg3 rfl (vk K)),λ_ _ _ _ hm hs K=>zC hs rfl rfl rfl (zCp hs rfl rfl rfl (λa w hs=>wpList_nil (K _ _ (by rw [show ((((l.length:Nat):Int):Int)==((most:Nat):Int))=true from by rw [beq_iff_eq];omega] at hs;exact hs)))),λ_ _ _ _ hm hs K=>zC hs rfl rfl rfl (zAC hs rfl (hm.keep hp (by simp [zN,blk])) .z isAgg151 rfl (vk K)),λ_ _ _ _ hm hs K=>zC hs rfl rfl rfl (zB (v:=nI (zAF (sns l) k)) hs (.c rfl (.c rfl .n)) call186 (zEq g _ l most fl gone k _ (hm.rd0 hu) (hm.keep hg (by simp [zN,blk])) hsr (by omega) hiv) rfl (vk K)),λ_ _ _ _ hm hs K=>zC hs rfl rfl rfl (zCp hs rfl rfl rfl (λa w hs=>wpList_nil (K _ _ (by rw [show ((((zAF (sns l) k:Nat):Int):Int)==0)=false from by rw [beq_eq_false_iff_ne];omega] at hs;exact hs)))),⟨rfl,by kernel_rfl,λ_=>rfl,rfl,rfl,trivial⟩,λ_=>rfl,?_⟩
  refine goE 0 [] [4] .n ?_
  intro a w hs;exact fin hs rfl rfl ⟨congrArg Value.bool (by unfold stl;rw [zAO];simp_all),rfl⟩
 refine zO [.p [] [],.p [0] [],.p [1] [],.p [1] [],.v [3,2,1] undef,.p [4,1] [],.p [5] [],.p [6] [],.p [7,6] [],.p [8,6] [],.v [9,6] (pt g 0),.v [10,6] (nI l.length),.p [6] [],.p [12,6] [],.p [13,6] [],.v [14,6] (nI most),.v [15,11,6] (.bool (false)),.p [16,6] [],.p [17] [],.p [18,17] [],.p [19,17] [],.p [20,17] [],.p [17] [],.p [22,21,17] [],.v [23,17] undef,.p [24,17,6] [],.p [25,6] [],.p [26] []] [27] hs .n .n (by kernel_rfl) ⟨λ_ _ _ _ hm hs K=>zCV hs rfl rfl rfl rfl rfl (vk K),λ_ _ _ _ hm hs K=>zC hs rfl rfl rfl (zAC hs rfl (hm.keep hp (by simp [zN,blk])) .z isAgg151 rfl (vk K)),λ_ _ _ _ hm hs K=>zC hs rfl rfl rfl (zB (v:=nI l.length) hs (.c rfl .n) call123 (zCf g _ l most fl gone _ (hm.rd0 hu) (hm.keep hg (by simp [zN,blk])) hsr (by omega) hiv) rfl (vk K)),λ_ _ _ _ hm hs K=>zC hs rfl rfl rfl (zAC hs rfl (hm.keep hp (by simp [zN,blk])) (.s .z) isAgg3 rfl (vk K)),λ_ _ _ _ hm hs K=>zC hs rfl rfl rfl (zCp hs rfl rfl rfl (λa w hs=>wpList_nil (K _ _ (by rw [show ((((l.length:Nat):Int):Int)==((most:Nat):Int))=false from by rw [beq_eq_false_iff_ne];omega] at hs;exact hs)))),λ_ _ _ _ hm hs K=>zCV hs rfl rfl rfl rfl rfl (vk K),⟨rfl,by kernel_rfl,λ_=>rfl,rfl,rfl,trivial⟩,λ_=>rfl,?_⟩
 refine goE 0 [] [4] .n ?_
 intro a w hs;exact fin hs rfl rfl ⟨congrArg Value.bool (by unfold stl;rw [zAO];simp_all),rfl⟩
theorem zFK (p g:Nat) (u:Value) (l:List RI) (most:Nat) (fl:Int) (gone:Bool) (N:Nat→Nat) (t tm:Int) (v:Value) (mv:Nat) (hv:zDj v mv) (w0:World) (hp:(blk p [pt g 0,nI most,nI (N 0),nI (N 1),nI (N 2),nI (N 3),nI (N 4),nI (N 5),nI (N 6),nI (N 7),nI (N 8),nI (N 9),nI (N 10),nI (N 11),nI (N 12),nI (N 13),nI (N 14),nI (N 15),nI (N 16),nI (N 17)] 155).p w0) (hg:(blk g [u,nI most,zI fl,.bool (gone)] 200).p w0) (hu:Rd w0 [] u 4 l.length (l.flatMap riV)) (hrw:(rws 48 l).p w0) (ho:Oks (sns l) most):Calls Tryz.prog 130 #[pt p 0,.agg #[zI t,zI tm,v]] w0 (zAh w0 (.bool (tml (sns l) t tm))):=by
 have hiv:=zEH hrw
 have hsr:=ho.srt
 have hll:l.length≤100000:=by have:=ho.le;have:=ho.m64;rw [zAO] at *;omega
 have hm64:=ho.m64
 have hku:=zSR hsr (k:=t)
 rw [zAO] at hku
 refine zG (F0:=[(0,pt p 0),(1,.agg #[zI t,zI tm,v])]) func130 rfl rfl rfl (.c (.c .n)) (Mem.nil _) ?_
 refine go 2 [0] [3,0] .n (λg1=>?_)
 intro a w hs
 refine zO [.p [] [],.p [0] [],.p [1] [],.v [2] (pt g 0),.p [] [],.p [4] [0],.v [5,3] (nI (zAF (sns l) t)),.p [6] []] [7] hs .n (.c .z .n) (by kernel_rfl) ⟨λ_ _ _ _ hm hs K=>zAC hs rfl (hm.keep hp (by simp [zN,blk])) .z isAgg151 rfl (vk K),rfl,λ_ _ _ _ hm hs K=>zB (v:=nI (zAF (sns l) t)) hs (.c rfl (.c rfl .n)) call186 (zEq g _ l most fl gone t _ (hm.rd0 hu) (hm.keep hg (by simp [zN,blk])) hsr (by omega) hiv) rfl (vk K),⟨rfl,by kernel_rfl,λ_=>rfl,rfl,rfl,trivial⟩,λ_=>rfl,?_⟩
 refine goE 3 [] [22,5,3,0] .n ?_
 intro a w hs;refine zAC hs rfl (hs.mem.keep hp (by simp [zN,blk])) .z isAgg151 rfl ?_
 refine goL 2 [] [25,23,5,3,0] .n ⟨(by omega),?_⟩
 intro a w hs;refine zB (v:=.tuple #[zI ((rat l (((zAF (sns l) t:Nat):Int)-1)).t),.agg #[zI ((rat l (((zAF (sns l) t:Nat):Int)-1)).t),zI ((rat l (((zAF (sns l) t:Nat):Int)-1)).tm),(rat l (((zAF (sns l) t:Nat):Int)-1)).v],nI (zLN (sns l) (((zAF (sns l) t:Nat):Int)-1))]) hs (.c rfl (.c rfl .n)) call124 (zIC g _ l most fl gone (((zAF (sns l) t:Nat):Int)-1) _ (hs.rd0 hu) (hs.mem.keep hg (by simp [zN,blk])) hsr (by omega) hiv) rfl ?_
 refine goL 6 [] [7,29,28,5,3,0] .n (λg3=>?_)
 intro a w hs;refine zAU hs rfl rfl .z (.z (.c (.c (.c .n)))) (zF rfl (zF rfl (zF (zC4 (hs.mem.keepH hrw (by simp)) (zKV l (((zAF (sns l) t:Nat):Int)-1))).isSl.one zAX))) sizeOf46 rfl ?_
 refine goL 4 [] [33,8,7,5,3] .n ?_
 intro a w hs;refine zAC hs rfl (hs.mem.keep hp (by simp [zN,blk])) .z isAgg151 rfl ?_
 refine goL 1 [] [35,34,8,7,3] .n ?_
 intro a w hs;refine zB (v:=.tuple #[zI ((rat l ((zAF (sns l) t:Nat):Int)).t),.agg #[zI ((rat l ((zAF (sns l) t:Nat):Int)).t),zI ((rat l ((zAF (sns l) t:Nat):Int)).tm),(rat l ((zAF (sns l) t:Nat):Int)).v],nI (zLN (sns l) ((zAF (sns l) t:Nat):Int))]) hs (.c rfl (.c rfl .n)) call124 (zIC g _ l most fl gone ((zAF (sns l) t:Nat):Int) _ (hs.rd0 hu) (hs.mem.keep hg (by simp [zN,blk])) hsr (by omega) hiv) rfl ?_
 refine goL 6 [] [10,39,38,8,7,3] .n (λg4=>?_)
 intro a w hs;refine zAU hs rfl rfl .z (.z (.c (.c (.c .n)))) (zF rfl (zF rfl (zF (zC4 (hs.mem.keepH hrw (by simp)) (zKV l ((zAF (sns l) t:Nat):Int))).isSl.one zAX))) sizeOf46 rfl ?_
 refine goL 4 [] [42,11,10,7,3] .n ?_
 intro a w hs;refine zX (b:=!((((zLN (sns l) (((zAF (sns l) t:Nat):Int)-1):Nat):Int):Int)==0)) (λc_5=>?_) (λc_5=>?_)
 ·
  rw [c_5] at hs
  replace c_5:=zFW c_5
  replace c_5:=zAW c_5
  revert a w hs
  refine go 10 [] [52,49,10,3] .n ?_
  intro a w hs;refine zX (b:=!((((zLN (sns l) ((zAF (sns l) t:Nat):Int):Nat):Int):Int)==0)) (λc_6=>?_) (λc_6=>?_)
  ·
   rw [c_6] at hs
   replace c_6:=zFW c_6
   replace c_6:=zAW c_6
   revert a w hs
   refine go 8 [] [4] .n ?_
   refine cl (·.drop (.c (.s (.s .z)) (.c (.s .z) (.c .z .n)))) ?_
   have ht1:(rat l ((zAF (sns l) t:Nat)-1:Int)).tm=_:=congrArg zAD.tm (zEY l ((zAF (sns l) t:Nat)-1:Int))
   have ht2:(rat l ((zAF (sns l) t:Nat):Int)).tm=_:=congrArg zAD.tm (zEY l ((zAF (sns l) t:Nat):Int))
   intro a w hs;exact fin hs rfl rfl ⟨congrArg Value.bool (by unfold tml;rw [← ht1,← ht2];clear ht1 ht2;first | (simp_all;done) | (simp_all<;>omega)),rfl⟩
  rw [c_6] at hs
  replace c_6:=zFX c_6
  replace c_6:=eq_of_beq c_6
  revert a w hs
  refine go 8 [0,1] [4] (.c .z (.c (.s .z) .n)) ⟨rfl,rfl,?_⟩
  refine cl (·.drop (.c (.s (.s .z)) (.c (.s .z) (.c .z .n)))) ?_
  have ht1:(rat l ((zAF (sns l) t:Nat)-1:Int)).tm=_:=congrArg zAD.tm (zEY l ((zAF (sns l) t:Nat)-1:Int))
  have ht2:(rat l ((zAF (sns l) t:Nat):Int)).tm=_:=congrArg zAD.tm (zEY l ((zAF (sns l) t:Nat):Int))
  intro a w hs;exact fin hs rfl rfl ⟨congrArg Value.bool (by unfold tml;rw [← ht1,← ht2];clear ht1 ht2;first | (simp_all;done) | (simp_all<;>omega)),rfl⟩
 rw [c_5] at hs
 replace c_5:=zFX c_5
 replace c_5:=eq_of_beq c_5
 revert a w hs
 refine go 7 [0,1] [49,11,10,3] (.c (.s .z) (.c (.s .z) .n)) ⟨rfl,rfl,?_⟩
 intro a w hs;refine zX (b:=decide (((rat l (((zAF (sns l) t:Nat):Int)-1)).tm)<tm)) (λc_7=>?_) (λc_7=>?_)
 ·
  rw [c_7] at hs
  replace c_7:=of_decide_eq_true c_7
  revert a w hs
  refine go 3 [] [52,49,10,3] .n ?_
  intro a w hs;refine zX (b:=!((((zLN (sns l) ((zAF (sns l) t:Nat):Int):Nat):Int):Int)==0)) (λc_8=>?_) (λc_8=>?_)
  ·
   rw [c_8] at hs
   replace c_8:=zFW c_8
   replace c_8:=zAW c_8
   revert a w hs
   refine go 8 [] [4] .n ?_
   refine cl (·.drop (.c (.s (.s .z)) (.c (.s .z) (.c .z .n)))) ?_
   have ht1:(rat l ((zAF (sns l) t:Nat)-1:Int)).tm=_:=congrArg zAD.tm (zEY l ((zAF (sns l) t:Nat)-1:Int))
   have ht2:(rat l ((zAF (sns l) t:Nat):Int)).tm=_:=congrArg zAD.tm (zEY l ((zAF (sns l) t:Nat):Int))
   intro a w hs;exact fin hs rfl rfl ⟨congrArg Value.bool (by unfold tml;rw [← ht1,← ht2];clear ht1 ht2;first | (simp_all;done) | (simp_all<;>omega)),rfl⟩
  rw [c_8] at hs
  replace c_8:=zFX c_8
  replace c_8:=eq_of_beq c_8
  revert a w hs
  refine go 8 [0,1] [4] (.c (.s (.s .z)) (.c (.s .z) .n)) ⟨rfl,rfl,?_⟩
  refine cl (·.drop (.c (.s (.s .z)) (.c (.s .z) (.c .z .n)))) ?_
  have ht1:(rat l ((zAF (sns l) t:Nat)-1:Int)).tm=_:=congrArg zAD.tm (zEY l ((zAF (sns l) t:Nat)-1:Int))
  have ht2:(rat l ((zAF (sns l) t:Nat):Int)).tm=_:=congrArg zAD.tm (zEY l ((zAF (sns l) t:Nat):Int))
  intro a w hs;exact fin hs rfl rfl ⟨congrArg Value.bool (by unfold tml;rw [← ht1,← ht2];clear ht1 ht2;first | (simp_all;done) | (simp_all<;>omega)),rfl⟩
 rw [c_7] at hs
 replace c_7:=of_decide_eq_false c_7
 revert a w hs
 refine go 11 [] [4] .n ?_
 refine cl (·.drop (.c (.s (.s .z)) (.c (.s .z) (.c .z .n)))) ?_
 have ht1:(rat l ((zAF (sns l) t:Nat)-1:Int)).tm=_:=congrArg zAD.tm (zEY l ((zAF (sns l) t:Nat)-1:Int))
 have ht2:(rat l ((zAF (sns l) t:Nat):Int)).tm=_:=congrArg zAD.tm (zEY l ((zAF (sns l) t:Nat):Int))
 intro a w hs;exact fin hs rfl rfl ⟨congrArg Value.bool (by unfold tml;rw [← ht1,← ht2];clear ht1 ht2;first | (simp_all;done) | (simp_all<;>omega)),rfl⟩
theorem zI5 (g h:Nat) (v:Value) (m:Nat) (bs:List zQ) (R:Rs) (k id:Int) (w0:World) (hb:Rd w0 [g,h] v 1 m (zD bs)) (hg:(blk g [v,nI ((R).p),nI ((R).e)] 336).p w0) (hh:(blk h [zI k,zI id,zI 0,zI 0,zI 0,zI 0,zI 0,zI 0,.int .u16 (0)] 161).p w0) (hle:R.p≤bs.length):Calls Tryz.prog 253 #[pt g 0,pt h 0] w0 (Ret w0 [g,h] λu N=>u = .tuple #[]∧N=[blk g [v,nI (((zCL bs k id R).2).p),nI (((zCL bs k id R).2).e)] 336,blk h [zI (((zCL bs k id R).1).k),zI (((zCL bs k id R).1).id),zI (((zCL bs k id R).1).p0),zI (((zCL bs k id R).1).p1),zI (((zCL bs k id R).1).p2),zI (((zCL bs k id R).1).v0),zI (((zCL bs k id R).1).v1),zI (((zCL bs k id R).1).v2),.int .u16 (((((zCL bs k id R).1).a).toNat:Nat):Int)] 161]):=by
 have hbl:bs.length=m:=by have:=hb.len;simpa [zD] using this
 have hbe:m≤maxLen:=hb.le
 simp only [maxLen] at hbe
 refine zG (F0:=[(0,pt g 0),(1,pt h 0)]) func253 rfl rfl rfl (.c (.c .n)) (zEM hg hh (by simp [zN,blk,zFx hg hh (by decide)])) ?_
 refine go 3 [] [6,5,4,0,1] .n ?_
 intro a w hs;refine zAf hs (.c rfl .n) call287 (.c .z .n) (zQ2  g _ _ bs R _ (hs.mem.rd1 hb (.c .z .n)) (hs.mem.del .z) (by omega)) rfl ?_
 have hk1:=zOh (bs:=bs) (R:=R) (by omega)
 refine goL 1 [] [8,7,5,4,0,1] .n ?_
 intro a w hs;refine zAf hs (.c rfl .n) call287 (.c .z .n) (zQ2  g _ _ bs ((zAE bs (zAE bs (zAE bs R).2).2).2) _ (hs.mem.rd1 hb (.c .z .n)) (hs.mem.del .z) (by omega)) rfl ?_
 have hk2:=zOh (bs:=bs) (R:=((zAE bs (zAE bs (zAE bs R).2).2).2)) (by omega)
 refine goL 8 [0,0] [15,14] (.c (.s .z) .n) ⟨rfl,rfl,?_⟩
 intro a w hs;refine zAf hs (.c rfl (.c rfl .n)) call229 (.c (.s .z) .n) (zES (65535#64) g _ _ bs ((zAE bs (zAE bs (zAE bs ((zAE bs (zAE bs (zAE bs R).2).2).2)).2).2).2) _ (hs.mem.rd1 hb (.c (.s .z) .n)) (hs.mem.del (.s .z)) (by omega)) rfl ?_
 have hk3:=zA8 (X:=65535#64) (bs:=bs) (R:=((zAE bs (zAE bs (zAE bs ((zAE bs (zAE bs (zAE bs R).2).2).2)).2).2).2)) (by omega)
 intro a w hs;refine zGD (X:=(zP bs (65535#64) ((zAE bs (zAE bs (zAE bs ((zAE bs (zAE bs (zAE bs R).2).2).2)).2).2).2)).1) hs rfl rfl underlying252 underlying41 rfl ?_
 refine goL 3 [0] [] (.c (.s .z) .n) ⟨rfl,?_⟩
 refine cl (·.reorder (.c (.s .z) (.c .z .n))) ?_
 intro a w hs;exact zIo hs rfl ⟨rfl,by simp only [zCL,nX,nS]⟩
theorem zMN (g h:Nat) (v:Value) (m:Nat) (bs:List zQ) (R:Rs) (k id:Int) (w0:World) (hb:Rd w0 [g,h] v 1 m (zD bs)) (hg:(blk g [v,nI ((R).p),nI ((R).e)] 336).p w0) (hh:(blk h [zI k,zI id,zI 0,zI 0,zI 0,zI 0,zI 0,zI 0,.int .u16 (0)] 161).p w0) (hle:R.p≤bs.length):Calls Tryz.prog 255 #[pt g 0,pt h 0] w0 (Ret w0 [g,h] λu N=>u = .tuple #[]∧N=[blk g [v,nI (((zBC bs k id R).2).p),nI (((zBC bs k id R).2).e)] 336,blk h [zI (((zBC bs k id R).1).k),zI (((zBC bs k id R).1).id),zI (((zBC bs k id R).1).p0),zI (((zBC bs k id R).1).p1),zI (((zBC bs k id R).1).p2),zI (((zBC bs k id R).1).v0),zI (((zBC bs k id R).1).v1),zI (((zBC bs k id R).1).v2),.int .u16 (((((zBC bs k id R).1).a).toNat:Nat):Int)] 161]):=by
 have hbl:bs.length=m:=by have:=hb.len;simpa [zD] using this
 have hbe:m≤maxLen:=hb.le
 simp only [maxLen] at hbe
 refine zG (F0:=[(0,pt g 0),(1,pt h 0)]) func255 rfl rfl rfl (.c (.c .n)) (zEM hg hh (by simp [zN,blk,zFx hg hh (by decide)])) ?_
 refine go 1 [] [7,0,1] .n ?_
 intro a w hs;refine zAf hs (.c rfl .n) call273 (.c .z .n) (zJ6  g _ _ bs R _ (hs.mem.rd1 hb (.c .z .n)) (hs.mem.del .z) (by omega)) rfl ?_
 have hk1:=zEF (bs:=bs) (R:=R) (by omega)
 refine goL 4 [] [11,4,0,1] .n ?_
 intro a w hs;refine zX (b:=(((((zH bs R).1).toNat:Nat):Int):Int)==0) (λc_2=>?_) (λc_2=>?_)
 ·
  rw [c_2] at hs
  replace c_2:=eq_of_beq c_2
  revert a w hs
  refine go 5 [] [15] .n ?_
  intro a w hs;refine zAf hs (.c rfl (.c rfl .n)) call231 (.c .z .n) (zDp 7 g _ _ bs ((zH bs R).2) _ (hs.mem.rd1 hb (.c .z .n)) (hs.mem.del .z) (by omega)) rfl ?_
  have hk3:=zBZ (e:=7) (bs:=bs) (R:=((zH bs R).2)) (by omega)
  refine goL 0 [] [] .n ?_
  intro a w hs;exact zUy hs rfl (by rw [zJU (by omega)];exact ⟨rfl,rfl⟩)
 rw [c_2] at hs
 replace c_2:=zAW c_2
 revert a w hs
 refine go 3 [] [14,4,0,1] .n ?_
 refine ifG rfl (λc_4=>?_) (λc_4=>?_)
 ·
  refine go 1 [] [15] .n ?_
  intro a w hs;refine zAf hs (.c rfl (.c rfl .n)) call231 (.c .z .n) (zDp 7 g _ _ bs ((zH bs R).2) _ (hs.mem.rd1 hb (.c .z .n)) (hs.mem.del .z) (by omega)) rfl ?_
  have hk5:=zBZ (e:=7) (bs:=bs) (R:=((zH bs R).2)) (by omega)
  refine goL 0 [] [] .n ?_
  intro a w hs;exact zUy hs rfl (by rw [zJU (by omega)];exact ⟨rfl,rfl⟩)
 refine go 1 [] [17,4,0,1] .n ?_
 intro a w hs;refine zB (v:=.agg #[pt h 2,pt h 3,pt h 4,pt h 5,pt h 6,pt h 7]) hs (.c rfl .n) call195 (zHq h _) rfl ?_
 refine zPd 1 1 [] [19,18,4,0,1] .n ?_
 refine cl (·.reblk .z (cs':=[v,nI ((upS bs (zH bs R).1 (zH bs R).2 0).p),nI ((upS bs (zH bs R).1 (zH bs R).2 0).e)]) rfl) ?_
 have hu0:(upS bs (zH bs R).1 (zH bs R).2 0).p=(zH bs R).2.p:=rfl
 refine cl (·.reblk (.s .z) (cs':=[zI k,zI id,zI (upQ bs (zH bs R).1 (zH bs R).2 0 0),zI (upQ bs (zH bs R).1 (zH bs R).2 0 1),zI (upQ bs (zH bs R).1 (zH bs R).2 0 2),zI (upQ bs (zH bs R).1 (zH bs R).2 0 3),zI (upQ bs (zH bs R).1 (zH bs R).2 0 4),zI (upQ bs (zH bs R).1 (zH bs R).2 0 5),.int .u16 (0)]) rfl) ?_
 refine go 0 [] [19,18,4,0,1] .n ?_
 refine cl (·.reorder (.c (.s .z) (.c .z .n))) ?_
 intro a w hs;refine zCC (λmm_ a w=>∃ i:Nat,mm_=6-i∧St 55 [(0,pt g 0),(1,pt h 0),(4,bI ((zH bs R).1)),(18,.agg #[pt h 2,pt h 3,pt h 4,pt h 5,pt h 6,pt h 7]),(19,nI i)] w0 [g,h] [blk g [v,nI ((upS bs (zH bs R).1 (zH bs R).2 i).p),nI ((upS bs (zH bs R).1 (zH bs R).2 i).e)] 336,blk h [zI k,zI id,zI (upQ bs (zH bs R).1 (zH bs R).2 i 0),zI (upQ bs (zH bs R).1 (zH bs R).2 i 1),zI (upQ bs (zH bs R).1 (zH bs R).2 i 2),zI (upQ bs (zH bs R).1 (zH bs R).2 i 3),zI (upQ bs (zH bs R).1 (zH bs R).2 i 4),zI (upQ bs (zH bs R).1 (zH bs R).2 i 5),.int .u16 (0)] 161] a w∧i≤6∧(upS bs (zH bs R).1 (zH bs R).2 i).p≤bs.length) ⟨0,rfl,hs.sub (.c rfl (.c rfl (.c rfl (.c rfl (.c rfl .n))))),by omega,by omega⟩ ?_
 clear hs w a;rintro mm_ a w ⟨i,rfl,hs,hI1_0,hI1_1⟩
 revert a w hs
 refine go 1 [] [20,0,1,4,18,19] .n ?_
 refine ifG rfl (λc_6=>?_) (λc_6=>?_)
 ·
  refine go 1 [] [21,0,1,4,18,19] .n ?_
  intro a w hs;refine za5 hs rfl rfl underlying294 (by omega) (by omega) (zW6 (by omega)) isAgg293 sizeOf293 rfl ?_
  refine goL 4 [] [24,23,6,0,1,4,18,19] .n ?_
  intro a w hs;refine zPs (X:=(zH bs R).1) (m:=i) hs rfl rfl rfl rfl rfl ?_
  intro a w hs;refine zK1 (X:=((zH bs R).1)>>>i) (Y:=1#8) hs rfl rfl rfl (by decide) rfl ?_
  refine goL 1 [] [27,6,0,1,4,18,19] .n ?_
  refine ifG rfl (λc_7=>?_) (λc_7=>?_)
  ·
   have hz_:=zYI (m:=(zH bs R).1) (i:=i) (by assumption)
   refine goF 7 2 [] [19,0,1,4,18] .n ⟨(by omega),?_⟩
   refine go 0 [] [19,0,1,4,18] .n ?_
   have hX_:=zb8 (bs:=bs) (R:=(zH bs R).2) hz_
   refine cl (·.reblk (.s .z) (cs':=[zI k,zI id,zI (upQ bs (zH bs R).1 (zH bs R).2 (i+1) 0),zI (upQ bs (zH bs R).1 (zH bs R).2 (i+1) 1),zI (upQ bs (zH bs R).1 (zH bs R).2 (i+1) 2),zI (upQ bs (zH bs R).1 (zH bs R).2 (i+1) 3),zI (upQ bs (zH bs R).1 (zH bs R).2 (i+1) 4),zI (upQ bs (zH bs R).1 (zH bs R).2 (i+1) 5),.int .u16 (0)]) (by simp only [zaY hX_])) ?_
   have hS_:upS bs (zH bs R).1 (zH bs R).2 (i+1)=(upS bs (zH bs R).1 (zH bs R).2 i):=zcQ hz_
   refine cl (·.reblk (.s .z) (cs':=[v,nI ((upS bs (zH bs R).1 (zH bs R).2 (i+1)).p),nI ((upS bs (zH bs R).1 (zH bs R).2 (i+1)).e)]) (by rw [hS_])) ?_
   intro a w hs;refine ⟨_,?_,(i+1),rfl,hs.sub (.c rfl (.c rfl (.c rfl (.c rfl (.c rfl .n))))),by omega,(zK2 (m:=(zH bs R).1) (R:=(zH bs R).2) (bs:=bs) (by omega) (i+1)).1⟩
   omega
  have hz_:=zYN (m:=(zH bs R).1) (i:=i) (by assumption)
  refine go 2 [] [29,28,6,0,1,4,18,19] .n ?_
  intro a w hs;refine zAf hs (.c rfl .n) call230 (.c .z .n) (zIP  g _ _ bs (upS bs (zH bs R).1 (zH bs R).2 i) _ (hs.mem.rd1 hb (.c .z .n)) (hs.mem.del .z) (by omega)) rfl ?_
  have hk8:=zDX (bs:=bs) (R:=(upS bs (zH bs R).1 (zH bs R).2 i)) (by omega)
  intro a w hs;refine zT8 hs rfl rfl ?_
  have hX_:=zcc (bs:=bs) (R:=(zH bs R).2) hz_
  intro a w hs;refine zSZ (cs':=[zI k,zI id,zI (upQ bs (zH bs R).1 (zH bs R).2 (i+1) 0),zI (upQ bs (zH bs R).1 (zH bs R).2 (i+1) 1),zI (upQ bs (zH bs R).1 (zH bs R).2 (i+1) 2),zI (upQ bs (zH bs R).1 (zH bs R).2 (i+1) 3),zI (upQ bs (zH bs R).1 (zH bs R).2 (i+1) 4),zI (upQ bs (zH bs R).1 (zH bs R).2 (i+1) 5),.int .u16 (0)]) hs rfl rfl (.s .z) (by show 2+i<9;omega) (by rw [← hX_];exact zXF (by omega)) rfl sizeOf2 ?_
  refine goL 1 [] [32,0,1,4,18,19] .n ?_
  intro a w hs;refine zT8 hs rfl rfl ?_
  intro a w hs;refine zKR (v:=zI ((zAE bs (upS bs (zH bs R).1 (zH bs R).2 i)).1)) hs rfl (hs.mem.del .z) (by rw [← hX_];exact zZE (by omega)) isAgg2 rfl ?_
  refine goL 1 [] [35,0,1,4,18,19] .n ?_
  refine ifG rfl (λc_9=>?_) (λc_9=>?_)
  ·
   refine go 1 [] [36,0,1,4,18,19] .n ?_
   intro a w hs;refine zAf hs (.c rfl (.c rfl .n)) call231 (.c (.s .z) .n) (zDp 7 g _ _ bs ((zAE bs (upS bs (zH bs R).1 (zH bs R).2 i)).2) _ (hs.mem.rd1 hb (.c (.s .z) .n)) (hs.mem.del (.s .z)) (by omega)) rfl ?_
   have hk10:=zBZ (e:=7) (bs:=bs) (R:=((zAE bs (upS bs (zH bs R).1 (zH bs R).2 i)).2)) (by omega)
   refine zPd 6 2 [] [19,0,1,4,18] .n ⟨(by omega),?_⟩
   refine go 0 [] [19,0,1,4,18] .n ?_
   have hS_:upS bs (zH bs R).1 (zH bs R).2 (i+1)=(zBo 7 ((zAE bs (upS bs (zH bs R).1 (zH bs R).2 i)).2)):=zc1 hz_ (by assumption)
   refine cl (·.reblk .z (cs':=[v,nI ((upS bs (zH bs R).1 (zH bs R).2 (i+1)).p),nI ((upS bs (zH bs R).1 (zH bs R).2 (i+1)).e)]) (by rw [hS_])) ?_
   intro a w hs;refine ⟨_,?_,(i+1),rfl,hs.sub (.c rfl (.c rfl (.c rfl (.c rfl (.c rfl .n))))),by omega,(zK2 (m:=(zH bs R).1) (R:=(zH bs R).2) (bs:=bs) (by omega) (i+1)).1⟩
   omega
  refine goF 6 2 [] [19,0,1,4,18] .n ⟨(by omega),?_⟩
  refine go 0 [] [19,0,1,4,18] .n ?_
  have hS_:upS bs (zH bs R).1 (zH bs R).2 (i+1)=((zAE bs (upS bs (zH bs R).1 (zH bs R).2 i)).2):=zc4 hz_ (by assumption)
  refine cl (·.reblk (.s .z) (cs':=[v,nI ((upS bs (zH bs R).1 (zH bs R).2 (i+1)).p),nI ((upS bs (zH bs R).1 (zH bs R).2 (i+1)).e)]) (by rw [hS_])) ?_
  intro a w hs;refine ⟨_,?_,(i+1),rfl,hs.sub (.c rfl (.c rfl (.c rfl (.c rfl (.c rfl .n))))),by omega,(zK2 (m:=(zH bs R).1) (R:=(zH bs R).2) (bs:=bs) (by omega) (i+1)).1⟩
  omega
 obtain rfl:i=6:=by omega
 refine cl (·.reblk (.s .z) (cs':=[zI k,zI id,zI (upX bs (zH bs R).1 (zH bs R).2 0),zI (upX bs (zH bs R).1 (zH bs R).2 1),zI (upX bs (zH bs R).1 (zH bs R).2 2),zI (upX bs (zH bs R).1 (zH bs R).2 3),zI (upX bs (zH bs R).1 (zH bs R).2 4),zI (upX bs (zH bs R).1 (zH bs R).2 5),.int .u16 (0)]) rfl) ?_
 refine go 1 [] [39,0,1] .n ?_
 intro a w hs;refine zK1 (X:=(zH bs R).1) (Y:=64#8) hs rfl rfl rfl (by decide) rfl ?_
 refine zPd 1 1 [] [41,0,1] .n ?_
 have hua:=zA8 (X:=65535#64) (bs:=bs) (R:=(upS bs (zH bs R).1 (zH bs R).2 6)) (by omega)
 refine go 0 [] [41,0,1] .n ?_
 refine ifG rfl (λc_11=>?_) (λc_11=>?_)
 ·
  have hz6:=zWI (by assumption)
  refine go 2 [] [43,42,0,1] .n ?_
  intro a w hs;refine zAf hs (.c rfl (.c rfl .n)) call229 (.c (.s .z) .n) (zES (65535#64) g _ _ bs (upS bs (zH bs R).1 (zH bs R).2 6) _ (hs.mem.rd1 hb (.c (.s .z) .n)) (hs.mem.del (.s .z)) (by omega)) rfl ?_
  have hk12:=zA8 (X:=65535#64) (bs:=bs) (R:=(upS bs (zH bs R).1 (zH bs R).2 6)) (by omega)
  intro a w hs;refine zGD (X:=(zP bs (65535#64) (upS bs (zH bs R).1 (zH bs R).2 6)).1) hs rfl rfl underlying252 underlying41 rfl ?_
  refine zPd 12 8 [0,0] [52,0] (.c (.s .z) .n) ⟨rfl,rfl,?_⟩
  have hsw:=zc3 (X:=(zP bs 65535#64 (upS bs (zH bs R).1 (zH bs R).2 6)).1) (by have:(65535#64).toNat=65535:=rfl;omega)
  refine go 0 [] [52,0] .n ?_
  refine ifG rfl (λc_13=>?_) (λc_13=>?_)
  ·
   refine go 1 [] [53] .n ?_
   intro a w hs;refine zAf hs (.c rfl (.c rfl .n)) call231 (.c (.s .z) .n) (zDp 7 g _ _ bs ((zP bs (65535#64) (upS bs (zH bs R).1 (zH bs R).2 6)).2) _ (hs.mem.rd1 hb (.c (.s .z) .n)) (hs.mem.del (.s .z)) (by omega)) rfl ?_
   have hk14:=zBZ (e:=7) (bs:=bs) (R:=((zP bs (65535#64) (upS bs (zH bs R).1 (zH bs R).2 6)).2)) (by omega)
   refine goL 0 [] [] .n ?_
   intro a w hs;exact zIo hs rfl (by rw [zHw (by omega) (by first | exact zY9 hz6 | exact zXs hz6 (by omega) | exact zXh hz6 (by omega))];exact ⟨rfl,rfl⟩)
  refine go 0 [] [] .n ?_
  refine cl (·.reorder (.c (.s .z) (.c .z .n))) ?_
  intro a w hs;exact zIo hs rfl (by rw [zHw (by omega) (by first | exact zY9 hz6 | exact zXs hz6 (by omega) | exact zXh hz6 (by omega))];exact ⟨rfl,rfl⟩)
 have hz6:=zVT (by assumption)
 refine go 0 [] [] .n ?_
 refine cl (·.reorder (.c (.s .z) (.c .z .n))) ?_
 intro a w hs;exact zIo hs rfl (by rw [zHw (by omega) (by first | exact zY9 hz6 | exact zXs hz6 (by omega) | exact zXh hz6 (by omega))];exact ⟨rfl,rfl⟩)
theorem zQY (x y:Value) (w0:World):Calls Tryz.prog 251 #[x,y] w0 (zAh w0 (.tuple #[])):=by
 refine zG (F0:=[(0,x),(1,y)]) func251 rfl rfl rfl (.c (.c .n)) (Mem.nil _) ?_
 refine go 0 [] [] .n ?_
 intro a w hs;exact zIo hs rfl ⟨rfl,rfl⟩
theorem zZd (g:Nat) (v:Value) (m:Nat) (bs:List zQ) (R:Rs) (last:Int) (w0:World) (hb:Rd w0 [g] v 1 m (zD bs)) (hg:(blk g [v,nI ((R).p),nI ((R).e)] 336).p w0) (hle:R.p≤bs.length) (hl : -9223372036854775808≤last∧last≤9223372036854775807):Calls Tryz.prog 232 #[pt g 0,.int .i64 last] w0 (Ret w0 [g] λu N=>u=Value.tuple #[.agg #[zI (((zAM bs last R).1).k),zI (((zAM bs last R).1).id),zI (((zAM bs last R).1).p0),zI (((zAM bs last R).1).p1),zI (((zAM bs last R).1).p2),zI (((zAM bs last R).1).v0),zI (((zAM bs last R).1).v1),zI (((zAM bs last R).1).v2),.int .u16 (((((zAM bs last R).1).a).toNat:Nat):Int)],nI ((zAM bs last R).2.1)]∧N=[blk g [v,nI (((zAM bs last R).2.2).p),nI (((zAM bs last R).2.2).e)] 336]):=by
 have hbl:bs.length=m:=by have:=hb.len;simpa [zD] using this
 have hbe:m≤maxLen:=hb.le
 simp only [maxLen] at hbe
 refine zG (F0:=[(0,pt g 0),(1,zI last)]) func232 rfl rfl rfl (.c (.c .n)) (zAq hg) ?_
 refine go 9 [] [16,4,0,1] .n (λg1=>?_)
 intro a w hs;refine zX (b:=decide (last<(-1))) (λc_2=>?_) (λc_2=>?_)
 ·
  rw [c_2] at hs
  replace c_2:=of_decide_eq_true c_2
  revert a w hs
  refine go 8 [0] [5,4] (.c .z .n) ⟨rfl,?_⟩
  have hq_:zAM bs last R=(zNU,3,R):=by first | exact zE1 (by omega) | exact zEn (by omega) | exact zD9 (by omega) (by omega) hraw (by omega) | exact zFA (by omega) (by omega) hraw (by omega)
  intro a w hs;exact zBM hs rfl rfl rfl .z (.z (.c (.c (.c (.c (.c (.c (.c (.c (.c .n)))))))))) isAgg161 sizeOf161 (.c .z .n) (by rw [hq_];exact ⟨rfl,rfl⟩)
 rw [c_2] at hs
 replace c_2:=of_decide_eq_false c_2
 revert a w hs
 refine go 4 [] [13,4,0,1] .n ?_
 refine ifG rfl (λc_3=>?_) (λc_3=>?_)
 ·
  refine go 3 [0] [5,4] (.c .z .n) ⟨rfl,?_⟩
  have hq_:zAM bs last R=(zNU,3,R):=by first | exact zE1 (by omega) | exact zEn (by omega) | exact zD9 (by omega) (by omega) hraw (by omega) | exact zFA (by omega) (by omega) hraw (by omega)
  intro a w hs;exact zBM hs rfl rfl rfl .z (.z (.c (.c (.c (.c (.c (.c (.c (.c (.c .n)))))))))) isAgg161 sizeOf161 (.c .z .n) (by rw [hq_];exact ⟨rfl,rfl⟩)
 refine go 3 [] [21,4,0,1] .n ?_
 refine ifG rfl (λc_4=>?_) (λc_4=>?_)
 ·
  refine go 1 [] [24,4,0] .n ?_
  intro a w hs;refine zAf hs (.c rfl (.c rfl .n)) call231 (.c (.s .z) .n) (zDp 10 g _ _ bs R _ (hs.mem.rd1 hb (.c (.s .z) .n)) (hs.mem.del (.s .z)) (by omega)) rfl ?_
  have hk5:=zBZ (e:=10) (bs:=bs) (R:=R) (by omega)
  refine goL 2 [] [27,26,4] .n ?_
  intro a w hs;refine zB (v:=nI ((zBo 10 R).e)) hs (.c rfl .n) call233 (zGs g _ _ bs (zBo 10 R) _ (hs.rd0 hb) (hs.mem.del .z) (by omega)) rfl ?_
  refine goL 2 [0] [5,4] (.c (.s .z) .n) ⟨rfl,?_⟩
  have hq_:zAM bs last R=(zNU,(zBo 10 R).e,(zBo 10 R)):=by first | exact zE1 (by omega) | exact zEn (by omega) | exact zD9 (by omega) (by omega) hraw (by omega) | exact zFA (by omega) (by omega) hraw (by omega)
  intro a w hs;exact zBM hs rfl rfl rfl .z (.z (.c (.c (.c (.c (.c (.c (.c (.c (.c .n)))))))))) isAgg161 sizeOf161 (.c .z .n) (by rw [hq_];exact ⟨rfl,rfl⟩)
 refine go 5 [0] [6,4,0] .n ⟨(by omega),λg6=>⟨rfl,?_⟩⟩
 intro a w hs
 have hk8:=zA8 (X:=BitVec.ofInt 64 (65534-last)) (bs:=bs) (R:=R) (by omega)
 refine zAQ [.p [] [],.l [0] [0] [11] [],.p [] [],.p [] [],.l [3] [0] [11] [],.v [4] (zI (65534-last)),.v [5] (qI (BitVec.ofInt 64 (65534-last))),.y [6,2] (qI ((zP bs (BitVec.ofInt 64 (65534-last)) R).1)) [blk g [v,nI R.p,nI R.e] 336] [] [] λvs7=>[blk g [v,nI (((zP bs (BitVec.ofInt 64 (65534-last)) R).2).p),nI (((zP bs (BitVec.ofInt 64 (65534-last)) R).2).e)] 336],.v [7] (nI ((zP bs (BitVec.ofInt 64 (65534-last)) R).1.toNat)),.p [8,1] [],.p [] [],.s [10,9] [0] [0] []] [] hs (.c .z .n) (.c (.s .z) .n) .n (by kernel_rfl) ⟨rfl,rfl,?_,λ_ _ _ _ hm hs K=>zAg hs rfl underlying3 underlying252 rfl (vk K),?_,(by have:=zQR (bs:=bs) (last:=last) (R:=R) (by omega) (by omega) (by omega);omega),rfl,⟨(.c (.s .z) (.c .z .n)),by kernel_rfl,λ_=>rfl,rfl,rfl⟩,⟨?_,trivial⟩,?_⟩
 ·
  intro a_ w_ R_ Q_ hm hs K_
  refine zH6 hs rfl rfl (by omega) rfl ?_;clear hs;intro a w hs
  replace hs:=hs.recell (v':=zI (65534-last)) (Option.some.inj (congrArg (λz=>some (Value.int .i64 z)) (show 65535-(last+1)=65534-last by omega)))
  exact wpList_nil (K_ _ _ hs)
 ·
  intro a_ w_ R_ Q_ hm hs K_
  refine zAV (X:=(zP bs (BitVec.ofInt 64 (65534-last)) R).1) hs rfl rfl underlying252 underlying3 rfl ?_;clear hs;intro a w hs
  replace hs:=hs.recell (v':=nI ((zP bs (BitVec.ofInt 64 (65534-last)) R).1.toNat)) (Option.some.inj (congrArg (λz=>some (Value.int .i64 z)) (zVB (bs:=bs) (R:=R) (by omega) (by omega) (by omega))))
  exact wpList_nil (K_ _ _ hs)
 ·
  intro a_ w_ R_ rest_ vs7 hm hs ht hx
  have hs0:=hs.bare
  refine zL hs (.c rfl (.c rfl .n)) call229 (.c .z .n) (zES (BitVec.ofInt 64 (65534-last)) g _ _ bs R _ (hm.rd1 hb (zC5.app _ _)) (hs.mem.del .z) (by omega)) rfl ?_;clear hs;rintro _ _ a w ⟨rfl,rfl⟩ hs
  have hk8:=zA8 (X:=BitVec.ofInt 64 (65534-last)) (bs:=bs) (R:=R) (by omega)
  exact wpList_nil ⟨rfl,_,_,hs0,(.c (.c .r)),hs,rfl⟩
 clear hs w a;intro vs7 a w hs hf
 clear hf
 revert a w hs
 refine goE 1 [] [43,6,4,0] .n ?_
 intro a w hs;refine zAf hs (.c rfl .n) call273 (.c (.s .z) .n) (zJ6  g _ _ bs ((zP bs (BitVec.ofInt 64 (65534-last)) R).2) _ (hs.mem.rd1 hb (.c (.s .z) .n)) (hs.mem.del (.s .z)) (by omega)) rfl ?_
 have hk9:=zEF (bs:=bs) (R:=((zP bs (BitVec.ofInt 64 (65534-last)) R).2)) (by omega)
 intro a w hs;refine zB4 hs rfl (bvr ((zH bs ((zP bs (BitVec.ofInt 64 (65534-last)) R).2)).1)) underlying5 underlying3 rfl ?_
 refine goL 2 [0] [6,4,0] (.c (.s (.s .z)) .n) ⟨rfl,?_⟩
 intro a w hs;refine zB (v:=.agg #[.func (.func 252) #[] #[],.func (.func 253) #[] #[],.func (.func 254) #[] #[],.func (.func 255) #[] #[],.func (.func 250) #[] #[],.func (.func 251) #[] #[],.func (.func 252) #[] #[],.func (.func 253) #[] #[]]) hs .n call203 (zGJ _) rfl ?_
 refine zPd 11 5 [0,1] [50,7,6,4,0] (.c .z .n) (λg10=>⟨rfl,rfl,?_⟩)
 intro a w hs;refine zZx (λa w=>∃ rr:zY,∃ RR:Rs,St 67 [(0,pt g 0),(4,pt g1 0),(6,pt g6 0)] w0 [g] [blk g [v,nI RR.p,nI RR.e] 336,blk g6 [zI rr.k,zI rr.id,zI rr.p0,zI rr.p1,zI rr.p2,zI rr.v0,zI rr.v1,zI rr.v2,.int .u16 (((rr.a).toNat:Nat):Int)] 161,blk g1 [zI 0,zI 0,zI 0,zI 0,zI 0,zI 0,zI 0,zI 0,.int .u16 (0)] 161] a w∧zEf bs last R=(rr,RR)∧RR.p≤bs.length) ?_ ?_
 ·
  revert a w hs;refine ifG rfl (λc_11=>?_) (λc_11=>?_)
  ·
   rcases (show (((zH bs (zP bs (BitVec.ofInt 64 (65534-last)) R).2).1.toNat:Nat):Int)=0∨(((zH bs (zP bs (BitVec.ofInt 64 (65534-last)) R).2).1.toNat:Nat):Int)=1∨(((zH bs (zP bs (BitVec.ofInt 64 (65534-last)) R).2).1.toNat:Nat):Int)=2∨(((zH bs (zP bs (BitVec.ofInt 64 (65534-last)) R).2).1.toNat:Nat):Int)=3 from by omega) with hk12 | hk12 | hk12 | hk12
   ·
    refine go 2 [0] [52,7,6,4,0] (.c (.s .z) .n) ⟨rfl,?_⟩
    refine cl (·.recell (v':=zI 0) (Option.some.inj (congrArg (λz=>some (Value.int .i64 z)) hk12))) ?_
    refine go 4 [0] [56,55,6,4,0] (.c (.s .z) .n) ⟨rfl,?_⟩
    intro a w hs;refine zBD (us:=[]) hs rfl (.c rfl (.c rfl .n)) rfl call253 (.c (.s (.s .z)) (.c (.s .z) .n)) (zI5 g g6 _ _ bs ((zH bs ((zP bs (BitVec.ofInt 64 (65534-last)) R).2)).2) ((((zH bs ((zP bs (BitVec.ofInt 64 (65534-last)) R).2)).1).toNat:Nat):Int) ((last+1)+(((zP bs (BitVec.ofInt 64 (65534-last)) R).1.toNat:Nat):Int)) _ (hs.mem.rd1 hb (.c (.s (.s .z)) (.c (.s .z) .n))) (hs.mem.del (.s (.s .z))) (hs.mem.del (.s .z)) (by omega)) rfl ?_;clear hs w a;rintro _ _ a w ⟨rfl,rfl⟩ hs
    have hk13:=zJh (bs:=bs) (k:=((((zH bs ((zP bs (BitVec.ofInt 64 (65534-last)) R).2)).1).toNat:Nat):Int)) (id:=(last+1)+(((zP bs (BitVec.ofInt 64 (65534-last)) R).1.toNat:Nat):Int)) (R:=((zH bs ((zP bs (BitVec.ofInt 64 (65534-last)) R).2)).2)) (by omega)
    revert a w hs
    refine goL 0 [] [6,4,0] .n ?_
    refine cl (·.drop (.c (.s (.s .z)) .n)) ?_
    intro a w hs;exact ⟨((zCL bs ((((zH bs ((zP bs (BitVec.ofInt 64 (65534-last)) R).2)).1).toNat:Nat):Int) ((last+1)+(((zP bs (BitVec.ofInt 64 (65534-last)) R).1.toNat:Nat):Int)) ((zH bs ((zP bs (BitVec.ofInt 64 (65534-last)) R).2)).2)).1),((zCL bs ((((zH bs ((zP bs (BitVec.ofInt 64 (65534-last)) R).2)).1).toNat:Nat):Int) ((last+1)+(((zP bs (BitVec.ofInt 64 (65534-last)) R).1.toNat:Nat):Int)) ((zH bs ((zP bs (BitVec.ofInt 64 (65534-last)) R).2)).2)).2),hs.sub (.c rfl (.c rfl (.c rfl .n))),zMm ((zFv _ _ _).trans (zGb (by omega))),by omega⟩
   ·
    refine go 2 [0] [52,7,6,4,0] (.c (.s .z) .n) ⟨rfl,?_⟩
    refine cl (·.recell (v':=zI 1) (Option.some.inj (congrArg (λz=>some (Value.int .i64 z)) hk12))) ?_
    refine go 4 [0] [56,55,6,4,0] (.c (.s .z) .n) ⟨rfl,?_⟩
    intro a w hs;refine zBD (us:=[]) hs rfl (.c rfl (.c rfl .n)) rfl call255 (.c (.s (.s .z)) (.c (.s .z) .n)) (zMN g g6 _ _ bs ((zH bs ((zP bs (BitVec.ofInt 64 (65534-last)) R).2)).2) ((((zH bs ((zP bs (BitVec.ofInt 64 (65534-last)) R).2)).1).toNat:Nat):Int) ((last+1)+(((zP bs (BitVec.ofInt 64 (65534-last)) R).1.toNat:Nat):Int)) _ (hs.mem.rd1 hb (.c (.s (.s .z)) (.c (.s .z) .n))) (hs.mem.del (.s (.s .z))) (hs.mem.del (.s .z)) (by omega)) rfl ?_;clear hs w a;rintro _ _ a w ⟨rfl,rfl⟩ hs
    have hk14:=zMF (bs:=bs) (k:=((((zH bs ((zP bs (BitVec.ofInt 64 (65534-last)) R).2)).1).toNat:Nat):Int)) (id:=(last+1)+(((zP bs (BitVec.ofInt 64 (65534-last)) R).1.toNat:Nat):Int)) (R:=((zH bs ((zP bs (BitVec.ofInt 64 (65534-last)) R).2)).2)) (by omega)
    revert a w hs
    refine goL 0 [] [6,4,0] .n ?_
    refine cl (·.drop (.c (.s (.s .z)) .n)) ?_
    intro a w hs;exact ⟨((zBC bs ((((zH bs ((zP bs (BitVec.ofInt 64 (65534-last)) R).2)).1).toNat:Nat):Int) ((last+1)+(((zP bs (BitVec.ofInt 64 (65534-last)) R).1.toNat:Nat):Int)) ((zH bs ((zP bs (BitVec.ofInt 64 (65534-last)) R).2)).2)).1),((zBC bs ((((zH bs ((zP bs (BitVec.ofInt 64 (65534-last)) R).2)).1).toNat:Nat):Int) ((last+1)+(((zP bs (BitVec.ofInt 64 (65534-last)) R).1.toNat:Nat):Int)) ((zH bs ((zP bs (BitVec.ofInt 64 (65534-last)) R).2)).2)).2),hs.sub (.c rfl (.c rfl (.c rfl .n))),zMm ((zFv _ _ _).trans (zIN (by omega))),by omega⟩
   ·
    refine go 2 [0] [52,7,6,4,0] (.c (.s .z) .n) ⟨rfl,?_⟩
    refine cl (·.recell (v':=zI 2) (Option.some.inj (congrArg (λz=>some (Value.int .i64 z)) hk12))) ?_
    refine go 4 [0] [56,55,6,4,0] (.c (.s .z) .n) ⟨rfl,?_⟩
    intro a w hs;refine zAr (us:=[]) (v:=.tuple #[]) hs rfl (.c rfl (.c rfl .n)) rfl call251 (zQY _ _ _) rfl ?_
    refine goL 0 [] [6,4,0] .n ?_
    refine cl (·.drop (.c .z .n)) ?_
    refine cl (·.reorder (.c (.s .z) (.c .z (.c .z .n)))) ?_
    intro a w hs;exact ⟨(⟨((((zH bs ((zP bs (BitVec.ofInt 64 (65534-last)) R).2)).1).toNat:Nat):Int),(last+1)+(((zP bs (BitVec.ofInt 64 (65534-last)) R).1.toNat:Nat):Int),0,0,0,0,0,0,0#16⟩ : zY),((zH bs ((zP bs (BitVec.ofInt 64 (65534-last)) R).2)).2),hs.sub (.c rfl (.c rfl (.c rfl .n))),(zFv _ _ _).trans (zIL (by omega)),by omega⟩
   refine go 2 [0] [52,7,6,4,0] (.c (.s .z) .n) ⟨rfl,?_⟩
   refine cl (·.recell (v':=zI 3) (Option.some.inj (congrArg (λz=>some (Value.int .i64 z)) hk12))) ?_
   refine go 4 [0] [56,55,6,4,0] (.c (.s .z) .n) ⟨rfl,?_⟩
   intro a w hs;refine zBD (us:=[]) hs rfl (.c rfl (.c rfl .n)) rfl call253 (.c (.s (.s .z)) (.c (.s .z) .n)) (zI5 g g6 _ _ bs ((zH bs ((zP bs (BitVec.ofInt 64 (65534-last)) R).2)).2) ((((zH bs ((zP bs (BitVec.ofInt 64 (65534-last)) R).2)).1).toNat:Nat):Int) ((last+1)+(((zP bs (BitVec.ofInt 64 (65534-last)) R).1.toNat:Nat):Int)) _ (hs.mem.rd1 hb (.c (.s (.s .z)) (.c (.s .z) .n))) (hs.mem.del (.s (.s .z))) (hs.mem.del (.s .z)) (by omega)) rfl ?_;clear hs w a;rintro _ _ a w ⟨rfl,rfl⟩ hs
   have hk15:=zJh (bs:=bs) (k:=((((zH bs ((zP bs (BitVec.ofInt 64 (65534-last)) R).2)).1).toNat:Nat):Int)) (id:=(last+1)+(((zP bs (BitVec.ofInt 64 (65534-last)) R).1.toNat:Nat):Int)) (R:=((zH bs ((zP bs (BitVec.ofInt 64 (65534-last)) R).2)).2)) (by omega)
   revert a w hs
   refine goL 0 [] [6,4,0] .n ?_
   refine cl (·.drop (.c (.s (.s .z)) .n)) ?_
   intro a w hs;exact ⟨((zCL bs ((((zH bs ((zP bs (BitVec.ofInt 64 (65534-last)) R).2)).1).toNat:Nat):Int) ((last+1)+(((zP bs (BitVec.ofInt 64 (65534-last)) R).1.toNat:Nat):Int)) ((zH bs ((zP bs (BitVec.ofInt 64 (65534-last)) R).2)).2)).1),((zCL bs ((((zH bs ((zP bs (BitVec.ofInt 64 (65534-last)) R).2)).1).toNat:Nat):Int) ((last+1)+(((zP bs (BitVec.ofInt 64 (65534-last)) R).1.toNat:Nat):Int)) ((zH bs ((zP bs (BitVec.ofInt 64 (65534-last)) R).2)).2)).2),hs.sub (.c rfl (.c rfl (.c rfl .n))),zMm ((zFv _ _ _).trans (zGb (by omega))),by omega⟩
  refine go 1 [] [58,6,4,0] .n ?_
  intro a w hs;refine zAf hs (.c rfl (.c rfl .n)) call231 (.c (.s (.s .z)) .n) (zDp 11 g _ _ bs ((zH bs ((zP bs (BitVec.ofInt 64 (65534-last)) R).2)).2) _ (hs.mem.rd1 hb (.c (.s (.s .z)) .n)) (hs.mem.del (.s (.s .z))) (by omega)) rfl ?_
  have hk16:=zBZ (e:=11) (bs:=bs) (R:=((zH bs ((zP bs (BitVec.ofInt 64 (65534-last)) R).2)).2)) (by omega)
  refine goL 0 [] [6,4,0] .n ?_
  refine cl (·.drop (.c (.s .z) .n)) ?_
  intro a w hs;exact ⟨(⟨((((zH bs ((zP bs (BitVec.ofInt 64 (65534-last)) R).2)).1).toNat:Nat):Int),(last+1)+(((zP bs (BitVec.ofInt 64 (65534-last)) R).1.toNat:Nat):Int),0,0,0,0,0,0,0#16⟩ : zY),(zBo 11 ((zH bs ((zP bs (BitVec.ofInt 64 (65534-last)) R).2)).2)),hs.sub (.c rfl (.c rfl (.c rfl .n))),(zFv _ _ _).trans (zPX (by omega)),by omega⟩
 clear hs w a;rintro a w ⟨rr,RR,hs,hJ17,hJ18⟩
 have hraw:=hJ17
 revert a w hs
 refine go 1 [] [60,4,6] .n ?_
 intro a w hs;refine zB (v:=nI RR.e) hs (.c rfl .n) call233 (zGs g _ _ bs RR _ (hs.rd0 hb) (hs.mem.del .z) (by omega)) rfl ?_
 refine goL 3 [] [63,8,4,6] .n ?_
 refine ifG rfl (λc_19=>?_) (λc_19=>?_)
 ·
  refine go 4 [0] [5,4] (.c (.s (.s .z)) .n) ⟨rfl,?_⟩
  have hq_:zAM bs last R=(zNU,RR.e,RR):=by first | exact zE1 (by omega) | exact zEn (by omega) | exact zD9 (by omega) (by omega) hraw (by omega) | exact zFA (by omega) (by omega) hraw (by omega)
  intro a w hs;exact zBM hs rfl rfl rfl .z (.z (.c (.c (.c (.c (.c (.c (.c (.c (.c .n)))))))))) isAgg161 sizeOf161 (.c (.s (.s .z)) (.c .z .n)) (by rw [hq_];exact ⟨rfl,rfl⟩)
 refine go 3 [0,1] [5,4] (.c (.s .z) (.c (.s .z) .n)) ⟨rfl,rfl,?_⟩
 have hq_:zAM bs last R=(rr,0,RR):=by first | exact zE1 (by omega) | exact zEn (by omega) | exact zD9 (by omega) (by omega) hraw (by omega) | exact zFA (by omega) (by omega) hraw (by omega)
 intro a w hs;exact zBM hs rfl rfl rfl (.s .z) (.z (.c (.c (.c (.c (.c (.c (.c (.c (.c .n)))))))))) isAgg161 sizeOf161 (.c (.s .z) (.c .z .n)) (by rw [hq_];exact ⟨rfl,rfl⟩)
end Go.Proofs.YtljpfgacpofkpaaGreat
