import Derived.Test.YtajjkegcfmhghaaGreatQWring
import Derived.Test.YtajjkegcfmhghaaGreatQSxStos
import Derived.Test.YtajjkegcfmhghaaGreatQSxBasB
import Derived.Test.YtajjkegcfmhghaaGreatQG15
/- Walks of stores: what each function does, over the program of this seat. Printed by a program of this session. -/
namespace Go.Proofs.YtajjkegcfmhghaaGreat
open Tryz
open Go Go.Sx Go.RowKit
set_option linter.unusedVariables false
set_option linter.unusedSimpArgs false
set_option maxRecDepth 4000
set_option maxHeartbeats 1000000

theorem zSS (t tm:Int) (v:Value) (l:List zS) (w0:World) (hc:Rd w0 [] v 9 l.length (l.flatMap zA9)) (hl:l.length ≤ 100000):Calls Tryz.prog 63 #[.agg #[zI t,zI tm,v]] w0 (Ret w0 [] fun u N=>∃ v',u = .agg #[.int .i64 t,.int .i64 tm,v'] ∧ N = [row v' 48 9 l.length (l.flatMap zA9)]):=by
 refine zD (F0:=[(0,.agg #[zI t,zI tm,v])]) func63 rfl rfl rfl (.c .n) (Mem.nil _) ?_
 refine go 2 [0] [2,1] .n (fun g1=>fun g2=>?_)
 intro a w hs;refine zTE hs underlying44 rfl ?_ ⟨_,sizeOf48⟩;intro g3
 refine goL 2 [0] [5,3,2,1] (.c (.s (.s .z)) .n) ⟨rfl,?_⟩
 refine cl (·.toRow (size:=9) (m:=0) (.s .z) rfl (by decide)) ?_
 intro a w hs;refine zBD (size:=9) (bytes:=64) hs rfl rfl .z (hs.rd0 hc) (zQn _) underlying44 (i:=Tryz.t48) rfl rfl rfl rfl rfl (by decide) (by omega) (by simp only [maxLen];omega) rfl ?_;intro v4
 refine cl (·.rerow .z (m':=l.length) (xs':=(l.flatMap zA9)) (by omega) (by simp)) ?_
 refine goL 1 [] [7,6,2,1] .n ?_
 intro a w hs;refine zBb hs rfl rfl (.s .z) (.s (.s .z)) (zO (hs.mem.del .z)).isSl.one sizeOf44 ?_
 refine goL 1 [0] [8,2] (.c .z .n) ⟨rfl,?_⟩
 intro a w hs;refine zAg hs rfl rfl (.s (.s .z)) (.z (.c (.c (.c .n)))) (zH rfl (zH rfl (zH (zO (hs.mem.del (.s .z))).isSl.one zAf))) sizeOf46 rfl ?_
 refine goL 0 [] [2] .n ?_
 intro a w hs;exact zLU hs rfl rfl .z (.z (.c (.c (.c .n)))) isAgg46 sizeOf46 (.c (.s .z) (.c .z .n)) ⟨_,rfl,rfl⟩
theorem zEk (b:Bool) (why e ge:Nat) (te:Nat) (w0:World) (hb:(blk ge [nI e] te).p w0):Calls Tryz.prog 95 #[.bool b,nI why,pt ge 0] w0 (Ret w0 [ge] fun u N=>u = .tuple #[] ∧ N = [blk ge [nI (zFd e b why)] te]):=by
 refine zD (F0:=[(0,.bool (b)),(1,nI why),(2,pt ge 0)]) func95 rfl rfl rfl (.c (.c (.c .n))) (zAl hb) ?_
 refine go 3 [0] [7,0,1,2] (.c .z .n) ⟨rfl,?_⟩
 intro a w hs;refine zY (b:=(((e:Nat):Int):Int) == 0) (fun c_1=>?_) (fun c_1=>?_)
 ·
  rw [c_1] at hs
  replace c_1:=eq_of_beq c_1
  revert a w hs
  refine go 2 [] [9,1,2] .n ?_
  refine ifG rfl (fun c_2=>?_) (fun c_2=>?_)
  ·
   refine go 2 [0] [] (.c .z .n) ⟨rfl,?_⟩
   intro a w hs;exact zIu hs rfl ⟨rfl,by first | (rw [zJH (by omega) (by assumption)] <;> rfl) | (rw [zHC (by omega)] <;> rfl) | (rw [zJJ (by assumption)] <;> rfl)⟩
  refine go 0 [] [] .n ?_
  intro a w hs;exact zIu hs rfl ⟨rfl,by first | (rw [zJH (by omega) (by assumption)] <;> rfl) | (rw [zHC (by omega)] <;> rfl) | (rw [zJJ (by assumption)] <;> rfl)⟩
 rw [c_1] at hs
 replace c_1:=zAW c_1
 revert a w hs
 refine go 3 [] [] .n ?_
 intro a w hs;exact zIu hs rfl ⟨rfl,by first | (rw [zJH (by omega) (by assumption)] <;> rfl) | (rw [zHC (by omega)] <;> rfl) | (rw [zJJ (by assumption)] <;> rfl)⟩
theorem zVS (p g:Nat) (u:Value) (l:List RI) (most:Nat) (fl:Int) (gone:Bool) (N:Nat → Nat) (k:Int) (w0:World) (hp:(blk p [pt g 0,nI most,nI (N 0),nI (N 1),nI (N 2),nI (N 3),nI (N 4),nI (N 5),nI (N 6),nI (N 7),nI (N 8),nI (N 9),nI (N 10),nI (N 11),nI (N 12),nI (N 13),nI (N 14),nI (N 15),nI (N 16),nI (N 17)] 126).p w0) (hg:(blk g [u,nI most,zI fl,.bool (gone)] 188).p w0) (hu:Rd w0 [] u 4 l.length (l.flatMap riV)) (hrw:(rws 48 l).p w0) (ho:Oks (sns l) most):Calls Tryz.prog 96 #[pt p 0,.int .i64 k] w0 (zAe w0 (.bool (stl (sns l) most fl gone k))):=by
 have hiv:=zEA hrw
 have hsr:=ho.srt
 have hll:l.length ≤ 100000:=by have:=ho.le;have:=ho.m64;rw [zAL] at *;omega
 have hm64:=ho.m64
 refine zD (F0:=[(0,pt p 0),(1,zI k)]) func96 rfl rfl rfl (.c (.c .n)) (Mem.nil _) ?_
 refine go 4 [] [10,0,1] .n ?_
 intro a w hs;refine zU hs rfl (hs.mem.keep hp (by simp [zL,blk])) .z isAgg123 rfl ?_
 intro a w hs;refine zB (v:=.tuple #[zI fl,.bool (gone)]) hs (.c rfl .n) call143 (zQm g _ l most fl gone _ (hs.mem.keep hg (by simp [zL,blk]))) rfl ?_
 refine goL 5 [] [6,5,0,1] .n ?_
 by_cases cg:gone = true
 ·
  intro a w hs;rw [cg] at hs
  by_cases ck:k ≤ fl
  ·
   refine zR [.p [] [],.p [0] [],.p [1] [],.p [1] [],.v [3,2,1] (.bool (true)),.p [4,1] [],.p [5] [],.p [6] [],.p [7,6] [],.p [8,6] [],.p [9,6] [],.p [10,6] [],.p [6] [],.p [12,6] [],.p [13,6] [],.p [14,6] [],.v [15,11,6] undef,.p [16,6] [],.p [17] [],.p [18,17] [],.p [19,17] [],.p [20,17] [],.p [17] [],.p [22,21,17] [],.v [23,17] undef,.p [24,17,6] [],.p [25,6] [],.p [26] []] [27] hs .n .n (by kernel_rfl) ⟨fun _ _ _ _ hm hs K=>zF hs rfl rfl rfl (zI6 hs rfl rfl rfl (fun a w hs=>wpList_nil (K _ _ (by rw [show (decide (k ≤ fl)) = true from decide_eq_true ck] at hs;exact hs)))),fun _ _ _ _ hm hs K=>zCN hs rfl rfl rfl rfl rfl (vk K),fun _ _ _ _ hm hs K=>zR8 hs rfl rfl rfl rfl (vk K),⟨rfl,by kernel_rfl,fun _=>rfl,rfl,rfl,trivial⟩,fun _=>rfl,?_⟩
   refine goE 0 [] [4] .n ?_
   intro a w hs;exact fin hs rfl rfl ⟨congrArg Value.bool (by unfold stl;rw [zAL];simp_all),rfl⟩
  by_cases cl:l.length = most
  ·
   by_cases cu:zAA (sns l) k = 0
   ·
    refine zR [.p [] [],.p [0] [],.p [1] [],.p [1] [],.v [3,2,1] (.bool (false)),.p [4,1] [],.p [5] [],.p [6] [],.p [7,6] [],.p [8,6] [],.v [9,6] (pt g 0),.v [10,6] (nI l.length),.p [6] [],.p [12,6] [],.p [13,6] [],.v [14,6] (nI most),.v [15,11,6] (.bool (true)),.p [16,6] [],.p [17] [],.p [18,17] [],.p [19,17] [],.v [20,17] (pt g 0),.p [17] [],.v [22,21,17] (nI (zAA (sns l) k)),.v [23,17] (.bool (true)),.p [24,17,6] [],.p [25,6] [],.p [26] []] [27] hs .n .n (by kernel_rfl) ⟨fun _ _ _ _ hm hs K=>zF hs rfl rfl rfl (zI6 hs rfl rfl rfl (fun a w hs=>wpList_nil (K _ _ (by rw [show (decide (k ≤ fl)) = false from decide_eq_false ck] at hs;exact hs)))),fun _ _ _ _ hm hs K=>zF hs rfl rfl rfl (zU hs rfl (hm.keep hp (by simp [zL,blk])) .z isAgg123 rfl (vk K)),fun _ _ _ _ hm hs K=>zF hs rfl rfl rfl (zB (v:=nI l.length) hs (.c rfl .n) call86 (zCd g _ l most fl gone _ (hm.rd0 hu) (hm.keep hg (by simp [zL,blk])) hsr (by omega) hiv) rfl (vk K)),fun _ _ _ _ hm hs K=>zF hs rfl rfl rfl (zU hs rfl (hm.keep hp (by simp [zL,blk])) (.s .z) isAgg3 rfl (vk K)),fun _ _ _ _ hm hs K=>zF hs rfl rfl rfl (zCt hs rfl rfl rfl (fun a w hs=>wpList_nil (K _ _ (by rw [show ((((l.length:Nat):Int):Int) == ((most:Nat):Int)) = true from by rw [beq_iff_eq];omega] at hs;exact hs)))),fun _ _ _ _ hm hs K=>zF hs rfl rfl rfl (zU hs rfl (hm.keep hp (by simp [zL,blk])) .z isAgg123 rfl (vk K)),fun _ _ _ _ hm hs K=>zF hs rfl rfl rfl (zB (v:=nI (zAA (sns l) k)) hs (.c rfl (.c rfl .n)) call144 (zE1 g _ l most fl gone k _ (hm.rd0 hu) (hm.keep hg (by simp [zL,blk])) hsr (by omega) hiv) rfl (vk K)),fun _ _ _ _ hm hs K=>zF hs rfl rfl rfl (zCt hs rfl rfl rfl (fun a w hs=>wpList_nil (K _ _ (by rw [show ((((zAA (sns l) k:Nat):Int):Int) == 0) = true from by rw [beq_iff_eq];omega] at hs;exact hs)))),⟨rfl,by kernel_rfl,fun _=>rfl,rfl,rfl,trivial⟩,fun _=>rfl,?_⟩
    refine goE 0 [] [4] .n ?_
    intro a w hs;exact fin hs rfl rfl ⟨congrArg Value.bool (by unfold stl;rw [zAL];simp_all),rfl⟩
   refine zR [.p [] [],.p [0] [],.p [1] [],.p [1] [],.v [3,2,1] (.bool (false)),.p [4,1] [],.p [5] [],.p [6] [],.p [7,6] [],.p [8,6] [],.v [9,6] (pt g 0),.v [10,6] (nI l.length),.p [6] [],.p [12,6] [],.p [13,6] [],.v [14,6] (nI most),.v [15,11,6] (.bool (true)),.p [16,6] [],.p [17] [],.p [18,17] [],.p [19,17] [],.v [20,17] (pt g 0),.p [17] [],.v [22,21,17] (nI (zAA (sns l) k)),.v [23,17] (.bool (false)),.p [24,17,6] [],.p [25,6] [],.p [26] []] [27] hs .n .n (by kernel_rfl) ⟨fun _ _ _ _ hm hs K=>zF hs rfl rfl rfl (zI6 hs rfl rfl rfl (fun a w hs=>wpList_nil (K _ _ (by rw [show (decide (k ≤ fl)) = false from decide_eq_false ck] at hs;exact hs)))),fun _ _ _ _ hm hs K=>zF hs rfl rfl rfl (zU hs rfl (hm.keep hp (by simp [zL,blk])) .z isAgg123 rfl (vk K)),fun _ _ _ _ hm hs K=>zF hs rfl rfl rfl (zB (v:=nI l.length) hs (.c rfl .n) call86 (zCd g _ l most fl gone _ (hm.rd0 hu) (hm.keep hg (by simp [zL,blk])) hsr (by omega) hiv) rfl (vk K)),fun _ _ _ _ hm hs K=>zF hs rfl rfl rfl (zU hs rfl (hm.keep hp (by simp [zL,blk])) (.s .z) isAgg3 rfl (vk K)),fun _ _ _ _ hm hs K=>zF hs rfl rfl rfl (zCt hs rfl rfl rfl (fun a w hs=>wpList_nil (K _ _ (by rw [show ((((l.length:Nat):Int):Int) == ((most:Nat):Int)) = true from by rw [beq_iff_eq];omega] at hs;exact hs)))),fun _ _ _ _ hm hs K=>zF hs rfl rfl rfl (zU hs rfl (hm.keep hp (by simp [zL,blk])) .z isAgg123 rfl (vk K)),fun _ _ _ _ hm hs K=>zF hs rfl rfl rfl (zB (v:=nI (zAA (sns l) k)) hs (.c rfl (.c rfl .n)) call144 (zE1 g _ l most fl gone k _ (hm.rd0 hu) (hm.keep hg (by simp [zL,blk])) hsr (by omega) hiv) rfl (vk K)),fun _ _ _ _ hm hs K=>zF hs rfl rfl rfl (zCt hs rfl rfl rfl (fun a w hs=>wpList_nil (K _ _ (by rw [show ((((zAA (sns l) k:Nat):Int):Int) == 0) = false from by rw [beq_eq_false_iff_ne];omega] at hs;exact hs)))),⟨rfl,by kernel_rfl,fun _=>rfl,rfl,rfl,trivial⟩,fun _=>rfl,?_⟩
   refine goE 0 [] [4] .n ?_
   intro a w hs;exact fin hs rfl rfl ⟨congrArg Value.bool (by unfold stl;rw [zAL];simp_all),rfl⟩
  refine zR [.p [] [],.p [0] [],.p [1] [],.p [1] [],.v [3,2,1] (.bool (false)),.p [4,1] [],.p [5] [],.p [6] [],.p [7,6] [],.p [8,6] [],.v [9,6] (pt g 0),.v [10,6] (nI l.length),.p [6] [],.p [12,6] [],.p [13,6] [],.v [14,6] (nI most),.v [15,11,6] (.bool (false)),.p [16,6] [],.p [17] [],.p [18,17] [],.p [19,17] [],.p [20,17] [],.p [17] [],.p [22,21,17] [],.v [23,17] undef,.p [24,17,6] [],.p [25,6] [],.p [26] []] [27] hs .n .n (by kernel_rfl) ⟨fun _ _ _ _ hm hs K=>zF hs rfl rfl rfl (zI6 hs rfl rfl rfl (fun a w hs=>wpList_nil (K _ _ (by rw [show (decide (k ≤ fl)) = false from decide_eq_false ck] at hs;exact hs)))),fun _ _ _ _ hm hs K=>zF hs rfl rfl rfl (zU hs rfl (hm.keep hp (by simp [zL,blk])) .z isAgg123 rfl (vk K)),fun _ _ _ _ hm hs K=>zF hs rfl rfl rfl (zB (v:=nI l.length) hs (.c rfl .n) call86 (zCd g _ l most fl gone _ (hm.rd0 hu) (hm.keep hg (by simp [zL,blk])) hsr (by omega) hiv) rfl (vk K)),fun _ _ _ _ hm hs K=>zF hs rfl rfl rfl (zU hs rfl (hm.keep hp (by simp [zL,blk])) (.s .z) isAgg3 rfl (vk K)),fun _ _ _ _ hm hs K=>zF hs rfl rfl rfl (zCt hs rfl rfl rfl (fun a w hs=>wpList_nil (K _ _ (by rw [show ((((l.length:Nat):Int):Int) == ((most:Nat):Int)) = false from by rw [beq_eq_false_iff_ne];omega] at hs;exact hs)))),fun _ _ _ _ hm hs K=>zCN hs rfl rfl rfl rfl rfl (vk K),⟨rfl,by kernel_rfl,fun _=>rfl,rfl,rfl,trivial⟩,fun _=>rfl,?_⟩
  refine goE 0 [] [4] .n ?_
  intro a w hs;exact fin hs rfl rfl ⟨congrArg Value.bool (by unfold stl;rw [zAL];simp_all),rfl⟩
 intro a w hs;replace cg:=Bool.eq_false_iff.2 cg;rw [cg] at hs
 by_cases cl:l.length = most
 ·
  by_cases cu:zAA (sns l) k = 0
  ·
   refine zR [.p [] [],.p [0] [],.p [1] [],.p [1] [],.v [3,2,1] undef,.p [4,1] [],.p [5] [],.p [6] [],.p [7,6] [],.p [8,6] [],.v [9,6] (pt g 0),.v [10,6] (nI l.length),.p [6] [],.p [12,6] [],.p [13,6] [],.v [14,6] (nI most),.v [15,11,6] (.bool (true)),.p [16,6] [],.p [17] [],.p [18,17] [],.p [19,17] [],.v [20,17] (pt g 0),.p [17] [],.v [22,21,17] (nI (zAA (sns l) k)),.v [23,17] (.bool (true)),.p [24,17,6] [],.p [25,6] [],.p [26] []] [27] hs .n .n (by kernel_rfl) ⟨fun _ _ _ _ hm hs K=>zCN hs rfl rfl rfl rfl rfl (vk K),fun _ _ _ _ hm hs K=>zF hs rfl rfl rfl (zU hs rfl (hm.keep hp (by simp [zL,blk])) .z isAgg123 rfl (vk K)),fun _ _ _ _ hm hs K=>zF hs rfl rfl rfl (zB (v:=nI l.length) hs (.c rfl .n) call86 (zCd g _ l most fl gone _ (hm.rd0 hu) (hm.keep hg (by simp [zL,blk])) hsr (by omega) hiv) rfl (vk K)),fun _ _ _ _ hm hs K=>zF hs rfl rfl rfl (zU hs rfl (hm.keep hp (by simp [zL,blk])) (.s .z) isAgg3 rfl (vk K)),fun _ _ _ _ hm hs K=>zF hs rfl rfl rfl (zCt hs rfl rfl rfl (fun a w hs=>wpList_nil (K _ _ (by rw [show ((((l.length:Nat):Int):Int) == ((most:Nat):Int)) = true from by rw [beq_iff_eq];omega] at hs;exact hs)))),fun _ _ _ _ hm hs K=>zF hs rfl rfl rfl (zU hs rfl (hm.keep hp (by simp [zL,blk])) .z isAgg123 rfl (vk K)),fun _ _ _ _ hm hs K=>zF hs rfl rfl rfl (zB (v:=nI (zAA (sns l) k)) hs (.c rfl (.c rfl .n)) call144 (zE1 g _ l most fl gone k _ (hm.rd0 hu) (hm.keep hg (by simp [zL,blk])) hsr (by omega) hiv) rfl (vk K)),fun _ _ _ _ hm hs K=>zF hs rfl rfl rfl (zCt hs rfl rfl rfl (fun a w hs=>wpList_nil (K _ _ (by rw [show ((((zAA (sns l) k:Nat):Int):Int) == 0) = true from by rw [beq_iff_eq];omega] at hs;exact hs)))),⟨rfl,by kernel_rfl,fun _=>rfl,rfl,rfl,trivial⟩,fun _=>rfl,?_⟩
   refine goE 0 [] [4] .n ?_
   intro a w hs;exact fin hs rfl rfl ⟨congrArg Value.bool (by unfold stl;rw [zAL];simp_all),rfl⟩
  refine zR [.p [] [],.p [0] [],.p [1] [],.p [1] [],.v [3,2,1] undef,.p [4,1] [],.p [5] [],.p [6] [],.p [7,6] [],.p [8,6] [],.v [9,6] (pt g 0),.v [10,6] (nI l.length),.p [6] [],.p [12,6] [],.p [13,6] [],.v [14,6] (nI most),.v [15,11,6] (.bool (true)),.p [16,6] [],.p [17] [],.p [18,17] [],.p [19,17] [],.v [20,17] (pt g 0),.p [17] [],.v [22,21,17] (nI (zAA (sns l) k)),.v [23,17] (.bool (false)),.p [24,17,6] [],.p [25,6] [],.p [26] []] [27] hs .n .n (by kernel_rfl) ⟨fun _ _ _ _ hm hs K=>zCN hs rfl rfl rfl rfl rfl (vk K),fun _ _ _ _ hm hs K=>zF hs rfl rfl rfl (zU hs rfl (hm.keep hp (by simp [zL,blk])) .z isAgg123 rfl (vk K)),fun _ _ _ _ hm hs K=>zF hs rfl rfl rfl (zB (v:=nI l.length) hs (.c rfl .n) call86 (zCd g _ l most fl gone _ (hm.rd0 hu) (hm.keep hg (by simp [zL,blk])) hsr (by omega) hiv) rfl (vk K)),fun _ _ _ _ hm hs K=>zF hs rfl rfl rfl (zU hs rfl (hm.keep hp (by simp [zL,blk])) (.s .z) isAgg3 rfl (vk K)),fun _ _ _ _ hm hs K=>zF hs rfl rfl rfl (zCt hs rfl rfl rfl (fun a w hs=>wpList_nil (K _ _ (by rw [show ((((l.length:Nat):Int):Int) == ((most:Nat):Int)) = true from by rw [beq_iff_eq];omega] at hs;exact hs)))),fun _ _ _ _ hm hs K=>zF hs rfl rfl rfl (zU hs rfl (hm.keep hp (by simp [zL,blk])) .z isAgg123 rfl (vk K)),fun _ _ _ _ hm hs K=>zF hs rfl rfl rfl (zB (v:=nI (zAA (sns l) k)) hs (.c rfl (.c rfl .n)) call144 (zE1 g _ l most fl gone k _ (hm.rd0 hu) (hm.keep hg (by simp [zL,blk])) hsr (by omega) hiv) rfl (vk K)),fun _ _ _ _ hm hs K=>zF hs rfl rfl rfl (zCt hs rfl rfl rfl (fun a w hs=>wpList_nil (K _ _ (by rw [show ((((zAA (sns l) k:Nat):Int):Int) == 0) = false from by rw [beq_eq_false_iff_ne];omega] at hs;exact hs)))),⟨rfl,by kernel_rfl,fun _=>rfl,rfl,rfl,trivial⟩,fun _=>rfl,?_⟩
  refine goE 0 [] [4] .n ?_
  intro a w hs;exact fin hs rfl rfl ⟨congrArg Value.bool (by unfold stl;rw [zAL];simp_all),rfl⟩
 refine zR [.p [] [],.p [0] [],.p [1] [],.p [1] [],.v [3,2,1] undef,.p [4,1] [],.p [5] [],.p [6] [],.p [7,6] [],.p [8,6] [],.v [9,6] (pt g 0),.v [10,6] (nI l.length),.p [6] [],.p [12,6] [],.p [13,6] [],.v [14,6] (nI most),.v [15,11,6] (.bool (false)),.p [16,6] [],.p [17] [],.p [18,17] [],.p [19,17] [],.p [20,17] [],.p [17] [],.p [22,21,17] [],.v [23,17] undef,.p [24,17,6] [],.p [25,6] [],.p [26] []] [27] hs .n .n (by kernel_rfl) ⟨fun _ _ _ _ hm hs K=>zCN hs rfl rfl rfl rfl rfl (vk K),fun _ _ _ _ hm hs K=>zF hs rfl rfl rfl (zU hs rfl (hm.keep hp (by simp [zL,blk])) .z isAgg123 rfl (vk K)),fun _ _ _ _ hm hs K=>zF hs rfl rfl rfl (zB (v:=nI l.length) hs (.c rfl .n) call86 (zCd g _ l most fl gone _ (hm.rd0 hu) (hm.keep hg (by simp [zL,blk])) hsr (by omega) hiv) rfl (vk K)),fun _ _ _ _ hm hs K=>zF hs rfl rfl rfl (zU hs rfl (hm.keep hp (by simp [zL,blk])) (.s .z) isAgg3 rfl (vk K)),fun _ _ _ _ hm hs K=>zF hs rfl rfl rfl (zCt hs rfl rfl rfl (fun a w hs=>wpList_nil (K _ _ (by rw [show ((((l.length:Nat):Int):Int) == ((most:Nat):Int)) = false from by rw [beq_eq_false_iff_ne];omega] at hs;exact hs)))),fun _ _ _ _ hm hs K=>zCN hs rfl rfl rfl rfl rfl (vk K),⟨rfl,by kernel_rfl,fun _=>rfl,rfl,rfl,trivial⟩,fun _=>rfl,?_⟩
 refine goE 0 [] [4] .n ?_
 intro a w hs;exact fin hs rfl rfl ⟨congrArg Value.bool (by unfold stl;rw [zAL];simp_all),rfl⟩
theorem zFV (p g:Nat) (u:Value) (l:List RI) (most:Nat) (fl:Int) (gone:Bool) (N:Nat → Nat) (t tm:Int) (v:Value) (mv:Nat) (hv:zDo v mv) (w0:World) (hp:(blk p [pt g 0,nI most,nI (N 0),nI (N 1),nI (N 2),nI (N 3),nI (N 4),nI (N 5),nI (N 6),nI (N 7),nI (N 8),nI (N 9),nI (N 10),nI (N 11),nI (N 12),nI (N 13),nI (N 14),nI (N 15),nI (N 16),nI (N 17)] 126).p w0) (hg:(blk g [u,nI most,zI fl,.bool (gone)] 188).p w0) (hu:Rd w0 [] u 4 l.length (l.flatMap riV)) (hrw:(rws 48 l).p w0) (ho:Oks (sns l) most):Calls Tryz.prog 98 #[pt p 0,.agg #[zI t,zI tm,v]] w0 (zAe w0 (.bool (tml (sns l) t tm))):=by
 have hiv:=zEA hrw
 have hsr:=ho.srt
 have hll:l.length ≤ 100000:=by have:=ho.le;have:=ho.m64;rw [zAL] at *;omega
 have hm64:=ho.m64
 have hku:=zQ0 hsr (k:=t)
 rw [zAL] at hku
 refine zD (F0:=[(0,pt p 0),(1,.agg #[zI t,zI tm,v])]) func98 rfl rfl rfl (.c (.c .n)) (Mem.nil _) ?_
 refine go 2 [0] [3,0] .n (fun g1=>?_)
 intro a w hs
 refine zR [.p [] [],.p [0] [],.p [1] [],.v [2] (pt g 0),.p [] [],.p [4] [0],.v [5,3] (nI (zAA (sns l) t)),.p [6] []] [7] hs .n (.c .z .n) (by kernel_rfl) ⟨fun _ _ _ _ hm hs K=>zU hs rfl (hm.keep hp (by simp [zL,blk])) .z isAgg123 rfl (vk K),rfl,fun _ _ _ _ hm hs K=>zB (v:=nI (zAA (sns l) t)) hs (.c rfl (.c rfl .n)) call144 (zE1 g _ l most fl gone t _ (hm.rd0 hu) (hm.keep hg (by simp [zL,blk])) hsr (by omega) hiv) rfl (vk K),⟨rfl,by kernel_rfl,fun _=>rfl,rfl,rfl,trivial⟩,fun _=>rfl,?_⟩
 refine goE 3 [] [22,5,3,0] .n ?_
 intro a w hs;refine zU hs rfl (hs.mem.keep hp (by simp [zL,blk])) .z isAgg123 rfl ?_
 refine goL 2 [] [25,23,5,3,0] .n ⟨(by omega),?_⟩
 intro a w hs;refine zB (v:=.tuple #[zI ((rat l (((zAA (sns l) t:Nat):Int) - 1)).t),.agg #[zI ((rat l (((zAA (sns l) t:Nat):Int) - 1)).t),zI ((rat l (((zAA (sns l) t:Nat):Int) - 1)).tm),(rat l (((zAA (sns l) t:Nat):Int) - 1)).v],nI (zKf (sns l) (((zAA (sns l) t:Nat):Int) - 1))]) hs (.c rfl (.c rfl .n)) call87 (zH3 g _ l most fl gone (((zAA (sns l) t:Nat):Int) - 1) _ (hs.rd0 hu) (hs.mem.keep hg (by simp [zL,blk])) hsr (by omega) hiv) rfl ?_
 refine goL 6 [] [7,29,28,5,3,0] .n (fun g3=>?_)
 intro a w hs;refine zAg hs rfl rfl .z (.z (.c (.c (.c .n)))) (zH rfl (zH rfl (zH (zET (hs.mem.keepH hrw (by simp)) (zKh l (((zAA (sns l) t:Nat):Int) - 1))).isSl.one zAf))) sizeOf46 rfl ?_
 refine goL 4 [] [33,8,7,5,3] .n ?_
 intro a w hs;refine zU hs rfl (hs.mem.keep hp (by simp [zL,blk])) .z isAgg123 rfl ?_
 refine goL 1 [] [35,34,8,7,3] .n ?_
 intro a w hs;refine zB (v:=.tuple #[zI ((rat l ((zAA (sns l) t:Nat):Int)).t),.agg #[zI ((rat l ((zAA (sns l) t:Nat):Int)).t),zI ((rat l ((zAA (sns l) t:Nat):Int)).tm),(rat l ((zAA (sns l) t:Nat):Int)).v],nI (zKf (sns l) ((zAA (sns l) t:Nat):Int))]) hs (.c rfl (.c rfl .n)) call87 (zH3 g _ l most fl gone ((zAA (sns l) t:Nat):Int) _ (hs.rd0 hu) (hs.mem.keep hg (by simp [zL,blk])) hsr (by omega) hiv) rfl ?_
 refine goL 6 [] [10,39,38,8,7,3] .n (fun g4=>?_)
 intro a w hs;refine zAg hs rfl rfl .z (.z (.c (.c (.c .n)))) (zH rfl (zH rfl (zH (zET (hs.mem.keepH hrw (by simp)) (zKh l ((zAA (sns l) t:Nat):Int))).isSl.one zAf))) sizeOf46 rfl ?_
 refine goL 4 [] [42,11,10,7,3] .n ?_
 intro a w hs;refine zY (b:=!((((zKf (sns l) (((zAA (sns l) t:Nat):Int) - 1):Nat):Int):Int) == 0)) (fun c_5=>?_) (fun c_5=>?_)
 ·
  rw [c_5] at hs
  replace c_5:=zF5 c_5
  replace c_5:=zAW c_5
  revert a w hs
  refine go 10 [] [52,49,10,3] .n ?_
  intro a w hs;refine zY (b:=!((((zKf (sns l) ((zAA (sns l) t:Nat):Int):Nat):Int):Int) == 0)) (fun c_6=>?_) (fun c_6=>?_)
  ·
   rw [c_6] at hs
   replace c_6:=zF5 c_6
   replace c_6:=zAW c_6
   revert a w hs
   refine go 8 [] [4] .n ?_
   refine cl (·.drop (.c (.s (.s .z)) (.c (.s .z) (.c .z .n)))) ?_
   have ht1:(rat l ((zAA (sns l) t:Nat) - 1:Int)).tm = _:=congrArg zAC.tm (zEV l ((zAA (sns l) t:Nat) - 1:Int))
   have ht2:(rat l ((zAA (sns l) t:Nat):Int)).tm = _:=congrArg zAC.tm (zEV l ((zAA (sns l) t:Nat):Int))
   intro a w hs;exact fin hs rfl rfl ⟨congrArg Value.bool (by unfold tml;rw [← ht1,← ht2];clear ht1 ht2;first | (simp_all;done) | (simp_all <;> omega)),rfl⟩
  rw [c_6] at hs
  replace c_6:=zGF c_6
  replace c_6:=eq_of_beq c_6
  revert a w hs
  refine go 8 [0,1] [4] (.c .z (.c (.s .z) .n)) ⟨rfl,rfl,?_⟩
  refine cl (·.drop (.c (.s (.s .z)) (.c (.s .z) (.c .z .n)))) ?_
  have ht1:(rat l ((zAA (sns l) t:Nat) - 1:Int)).tm = _:=congrArg zAC.tm (zEV l ((zAA (sns l) t:Nat) - 1:Int))
  have ht2:(rat l ((zAA (sns l) t:Nat):Int)).tm = _:=congrArg zAC.tm (zEV l ((zAA (sns l) t:Nat):Int))
  intro a w hs;exact fin hs rfl rfl ⟨congrArg Value.bool (by unfold tml;rw [← ht1,← ht2];clear ht1 ht2;first | (simp_all;done) | (simp_all <;> omega)),rfl⟩
 rw [c_5] at hs
 replace c_5:=zGF c_5
 replace c_5:=eq_of_beq c_5
 revert a w hs
 refine go 7 [0,1] [49,11,10,3] (.c (.s .z) (.c (.s .z) .n)) ⟨rfl,rfl,?_⟩
 intro a w hs;refine zY (b:=decide (((rat l (((zAA (sns l) t:Nat):Int) - 1)).tm) < tm)) (fun c_7=>?_) (fun c_7=>?_)
 ·
  rw [c_7] at hs
  replace c_7:=of_decide_eq_true c_7
  revert a w hs
  refine go 3 [] [52,49,10,3] .n ?_
  intro a w hs;refine zY (b:=!((((zKf (sns l) ((zAA (sns l) t:Nat):Int):Nat):Int):Int) == 0)) (fun c_8=>?_) (fun c_8=>?_)
  ·
   rw [c_8] at hs
   replace c_8:=zF5 c_8
   replace c_8:=zAW c_8
   revert a w hs
   refine go 8 [] [4] .n ?_
   refine cl (·.drop (.c (.s (.s .z)) (.c (.s .z) (.c .z .n)))) ?_
   have ht1:(rat l ((zAA (sns l) t:Nat) - 1:Int)).tm = _:=congrArg zAC.tm (zEV l ((zAA (sns l) t:Nat) - 1:Int))
   have ht2:(rat l ((zAA (sns l) t:Nat):Int)).tm = _:=congrArg zAC.tm (zEV l ((zAA (sns l) t:Nat):Int))
   intro a w hs;exact fin hs rfl rfl ⟨congrArg Value.bool (by unfold tml;rw [← ht1,← ht2];clear ht1 ht2;first | (simp_all;done) | (simp_all <;> omega)),rfl⟩
  rw [c_8] at hs
  replace c_8:=zGF c_8
  replace c_8:=eq_of_beq c_8
  revert a w hs
  refine go 8 [0,1] [4] (.c (.s (.s .z)) (.c (.s .z) .n)) ⟨rfl,rfl,?_⟩
  refine cl (·.drop (.c (.s (.s .z)) (.c (.s .z) (.c .z .n)))) ?_
  have ht1:(rat l ((zAA (sns l) t:Nat) - 1:Int)).tm = _:=congrArg zAC.tm (zEV l ((zAA (sns l) t:Nat) - 1:Int))
  have ht2:(rat l ((zAA (sns l) t:Nat):Int)).tm = _:=congrArg zAC.tm (zEV l ((zAA (sns l) t:Nat):Int))
  intro a w hs;exact fin hs rfl rfl ⟨congrArg Value.bool (by unfold tml;rw [← ht1,← ht2];clear ht1 ht2;first | (simp_all;done) | (simp_all <;> omega)),rfl⟩
 rw [c_7] at hs
 replace c_7:=of_decide_eq_false c_7
 revert a w hs
 refine go 11 [] [4] .n ?_
 refine cl (·.drop (.c (.s (.s .z)) (.c (.s .z) (.c .z .n)))) ?_
 have ht1:(rat l ((zAA (sns l) t:Nat) - 1:Int)).tm = _:=congrArg zAC.tm (zEV l ((zAA (sns l) t:Nat) - 1:Int))
 have ht2:(rat l ((zAA (sns l) t:Nat):Int)).tm = _:=congrArg zAC.tm (zEV l ((zAA (sns l) t:Nat):Int))
 intro a w hs;exact fin hs rfl rfl ⟨congrArg Value.bool (by unfold tml;rw [← ht1,← ht2];clear ht1 ht2;first | (simp_all;done) | (simp_all <;> omega)),rfl⟩
end Go.Proofs.YtajjkegcfmhghaaGreat
/- Walks of records off bytes: what each function does, over the program of this seat. Printed by a program of this session. -/
namespace Go.Proofs.YtajjkegcfmhghaaGreat
open Tryz
open Go Go.Sx Go.RowKit
set_option linter.unusedVariables false
set_option linter.unusedSimpArgs false
set_option maxRecDepth 4000
set_option maxHeartbeats 1000000

theorem zJP (g h:Nat) (v:Value) (m:Nat) (bs:List zP) (R:Rs) (k id:Int) (w0:World) (hb:Rd w0 [g,h] v 1 m (zC bs)) (hg:(blk g [v,nI ((R).p),nI ((R).e)] 281).p w0) (hh:(blk h [zI k,zI id,zI 0,zI 0,zI 0,zI 0,zI 0,zI 0,.int .u16 (0)] 55).p w0) (hle:R.p ≤ bs.length):Calls Tryz.prog 131 #[pt g 0,pt h 0] w0 (Ret w0 [g,h] fun u N=>u = .tuple #[] ∧ N = [blk g [v,nI (((zCF bs k id R).2).p),nI (((zCF bs k id R).2).e)] 281,blk h [zI (((zCF bs k id R).1).k),zI (((zCF bs k id R).1).id),zI (((zCF bs k id R).1).p0),zI (((zCF bs k id R).1).p1),zI (((zCF bs k id R).1).p2),zI (((zCF bs k id R).1).v0),zI (((zCF bs k id R).1).v1),zI (((zCF bs k id R).1).v2),.int .u16 (((((zCF bs k id R).1).a).toNat:Nat):Int)] 55]):=by
 have hbl:bs.length = m:=by have:=hb.len;simpa [zC] using this
 have hbe:m ≤ maxLen:=hb.le
 simp only [maxLen] at hbe
 refine zD (F0:=[(0,pt g 0),(1,pt h 0)]) func131 rfl rfl rfl (.c (.c .n)) (zEJ hg hh (by simp [zL,blk,zGJ hg hh (by decide)])) ?_
 refine go 3 [] [6,5,4,0,1] .n ?_
 intro a w hs;refine zAX hs (.c rfl .n) call170 (.c .z .n) (zSy  g _ _ bs R _ (hs.mem.rd1 hb (.c .z .n)) (hs.mem.del .z) (by omega)) rfl ?_
 have hk1:=zNq (bs:=bs) (R:=R) (by omega)
 refine goL 1 [] [8,7,5,4,0,1] .n ?_
 intro a w hs;refine zAX hs (.c rfl .n) call170 (.c .z .n) (zSy  g _ _ bs ((zAB bs (zAB bs (zAB bs R).2).2).2) _ (hs.mem.rd1 hb (.c .z .n)) (hs.mem.del .z) (by omega)) rfl ?_
 have hk2:=zNq (bs:=bs) (R:=((zAB bs (zAB bs (zAB bs R).2).2).2)) (by omega)
 refine goL 8 [0,0] [15,14] (.c (.s .z) .n) ⟨rfl,rfl,?_⟩
 intro a w hs;refine zAX hs (.c rfl (.c rfl .n)) call171 (.c (.s .z) .n) (zEB (65535#64) g _ _ bs ((zAB bs (zAB bs (zAB bs ((zAB bs (zAB bs (zAB bs R).2).2).2)).2).2).2) _ (hs.mem.rd1 hb (.c (.s .z) .n)) (hs.mem.del (.s .z)) (by omega)) rfl ?_
 have hk3:=zA1 (X:=65535#64) (bs:=bs) (R:=((zAB bs (zAB bs (zAB bs ((zAB bs (zAB bs (zAB bs R).2).2).2)).2).2).2)) (by omega)
 intro a w hs;refine zFy (X:=(zN bs (65535#64) ((zAB bs (zAB bs (zAB bs ((zAB bs (zAB bs (zAB bs R).2).2).2)).2).2).2)).1) hs rfl rfl underlying167 underlying41 rfl ?_
 refine goL 3 [0] [] (.c (.s .z) .n) ⟨rfl,?_⟩
 refine cl (·.reorder (.c (.s .z) (.c .z .n))) ?_
 intro a w hs;exact zIu hs rfl ⟨rfl,by simp only [zCF,nX,nS]⟩
theorem zNB (g h:Nat) (v:Value) (m:Nat) (bs:List zP) (R:Rs) (k id:Int) (w0:World) (hb:Rd w0 [g,h] v 1 m (zC bs)) (hg:(blk g [v,nI ((R).p),nI ((R).e)] 281).p w0) (hh:(blk h [zI k,zI id,zI 0,zI 0,zI 0,zI 0,zI 0,zI 0,.int .u16 (0)] 55).p w0) (hle:R.p ≤ bs.length):Calls Tryz.prog 133 #[pt g 0,pt h 0] w0 (Ret w0 [g,h] fun u N=>u = .tuple #[] ∧ N = [blk g [v,nI (((zA3 bs k id R).2).p),nI (((zA3 bs k id R).2).e)] 281,blk h [zI (((zA3 bs k id R).1).k),zI (((zA3 bs k id R).1).id),zI (((zA3 bs k id R).1).p0),zI (((zA3 bs k id R).1).p1),zI (((zA3 bs k id R).1).p2),zI (((zA3 bs k id R).1).v0),zI (((zA3 bs k id R).1).v1),zI (((zA3 bs k id R).1).v2),.int .u16 (((((zA3 bs k id R).1).a).toNat:Nat):Int)] 55]):=by
 have hbl:bs.length = m:=by have:=hb.len;simpa [zC] using this
 have hbe:m ≤ maxLen:=hb.le
 simp only [maxLen] at hbe
 refine zD (F0:=[(0,pt g 0),(1,pt h 0)]) func133 rfl rfl rfl (.c (.c .n)) (zEJ hg hh (by simp [zL,blk,zGJ hg hh (by decide)])) ?_
 refine go 1 [] [7,0,1] .n ?_
 intro a w hs;refine zAX hs (.c rfl .n) call172 (.c .z .n) (zKO  g _ _ bs R _ (hs.mem.rd1 hb (.c .z .n)) (hs.mem.del .z) (by omega)) rfl ?_
 have hk1:=zEM (bs:=bs) (R:=R) (by omega)
 refine goL 4 [] [11,4,0,1] .n ?_
 intro a w hs;refine zY (b:=(((((zG bs R).1).toNat:Nat):Int):Int) == 0) (fun c_2=>?_) (fun c_2=>?_)
 ·
  rw [c_2] at hs
  replace c_2:=eq_of_beq c_2
  revert a w hs
  refine go 5 [] [15] .n ?_
  intro a w hs;refine zAX hs (.c rfl (.c rfl .n)) call173 (.c .z .n) (zDe 7 g _ _ bs ((zG bs R).2) _ (hs.mem.rd1 hb (.c .z .n)) (hs.mem.del .z) (by omega)) rfl ?_
  have hk3:=zBU (e:=7) (bs:=bs) (R:=((zG bs R).2)) (by omega)
  refine goL 0 [] [] .n ?_
  intro a w hs;exact zVA hs rfl (by rw [zJL (by omega)];exact ⟨rfl,rfl⟩)
 rw [c_2] at hs
 replace c_2:=zAW c_2
 revert a w hs
 refine go 3 [] [14,4,0,1] .n ?_
 refine ifG rfl (fun c_4=>?_) (fun c_4=>?_)
 ·
  refine go 1 [] [15] .n ?_
  intro a w hs;refine zAX hs (.c rfl (.c rfl .n)) call173 (.c .z .n) (zDe 7 g _ _ bs ((zG bs R).2) _ (hs.mem.rd1 hb (.c .z .n)) (hs.mem.del .z) (by omega)) rfl ?_
  have hk5:=zBU (e:=7) (bs:=bs) (R:=((zG bs R).2)) (by omega)
  refine goL 0 [] [] .n ?_
  intro a w hs;exact zVA hs rfl (by rw [zJL (by omega)];exact ⟨rfl,rfl⟩)
 refine go 1 [] [17,4,0,1] .n ?_
 intro a w hs;refine zB (v:=.agg #[pt h 2,pt h 3,pt h 4,pt h 5,pt h 6,pt h 7]) hs (.c rfl .n) call159 (zIX h _) rfl ?_
 refine zPx 1 1 [] [19,18,4,0,1] .n ?_
 refine cl (·.reblk .z (cs':=[v,nI ((upS bs (zG bs R).1 (zG bs R).2 0).p),nI ((upS bs (zG bs R).1 (zG bs R).2 0).e)]) rfl) ?_
 have hu0:(upS bs (zG bs R).1 (zG bs R).2 0).p = (zG bs R).2.p:=rfl
 refine cl (·.reblk (.s .z) (cs':=[zI k,zI id,zI (upQ bs (zG bs R).1 (zG bs R).2 0 0),zI (upQ bs (zG bs R).1 (zG bs R).2 0 1),zI (upQ bs (zG bs R).1 (zG bs R).2 0 2),zI (upQ bs (zG bs R).1 (zG bs R).2 0 3),zI (upQ bs (zG bs R).1 (zG bs R).2 0 4),zI (upQ bs (zG bs R).1 (zG bs R).2 0 5),.int .u16 (0)]) rfl) ?_
 refine go 0 [] [19,18,4,0,1] .n ?_
 refine cl (·.reorder (.c (.s .z) (.c .z .n))) ?_
 intro a w hs;refine zCJ (fun mm_ a w=>∃ i:Nat,mm_ = 6 - i ∧ St 55 [(0,pt g 0),(1,pt h 0),(4,bI ((zG bs R).1)),(18,.agg #[pt h 2,pt h 3,pt h 4,pt h 5,pt h 6,pt h 7]),(19,nI i)] w0 [g,h] [blk g [v,nI ((upS bs (zG bs R).1 (zG bs R).2 i).p),nI ((upS bs (zG bs R).1 (zG bs R).2 i).e)] 281,blk h [zI k,zI id,zI (upQ bs (zG bs R).1 (zG bs R).2 i 0),zI (upQ bs (zG bs R).1 (zG bs R).2 i 1),zI (upQ bs (zG bs R).1 (zG bs R).2 i 2),zI (upQ bs (zG bs R).1 (zG bs R).2 i 3),zI (upQ bs (zG bs R).1 (zG bs R).2 i 4),zI (upQ bs (zG bs R).1 (zG bs R).2 i 5),.int .u16 (0)] 55] a w ∧ i ≤ 6 ∧ (upS bs (zG bs R).1 (zG bs R).2 i).p ≤ bs.length) ⟨0,rfl,hs.sub (.c rfl (.c rfl (.c rfl (.c rfl (.c rfl .n))))),by omega,by omega⟩ ?_
 clear hs w a;rintro mm_ a w ⟨i,rfl,hs,hI1_0,hI1_1⟩
 revert a w hs
 refine go 1 [] [20,0,1,4,18,19] .n ?_
 refine ifG rfl (fun c_6=>?_) (fun c_6=>?_)
 ·
  refine go 1 [] [21,0,1,4,18,19] .n ?_
  intro a w hs;refine zbW hs rfl rfl underlying262 (by omega) (by omega) (zWq (by omega)) isAgg261 sizeOf261 rfl ?_
  refine goL 4 [] [24,23,6,0,1,4,18,19] .n ?_
  intro a w hs;refine zQp (X:=(zG bs R).1) (m:=i) hs rfl rfl rfl rfl rfl ?_
  intro a w hs;refine zLh (X:=((zG bs R).1) >>> i) (Y:=1#8) hs rfl rfl rfl (by decide) rfl ?_
  refine goL 1 [] [27,6,0,1,4,18,19] .n ?_
  refine ifG rfl (fun c_7=>?_) (fun c_7=>?_)
  ·
   have hz_:=zY1 (m:=(zG bs R).1) (i:=i) (by assumption)
   refine goF 7 2 [] [19,0,1,4,18] .n ⟨(by omega),?_⟩
   refine go 0 [] [19,0,1,4,18] .n ?_
   have hX_:=zcV (bs:=bs) (R:=(zG bs R).2) hz_
   refine cl (·.reblk (.s .z) (cs':=[zI k,zI id,zI (upQ bs (zG bs R).1 (zG bs R).2 (i + 1) 0),zI (upQ bs (zG bs R).1 (zG bs R).2 (i + 1) 1),zI (upQ bs (zG bs R).1 (zG bs R).2 (i + 1) 2),zI (upQ bs (zG bs R).1 (zG bs R).2 (i + 1) 3),zI (upQ bs (zG bs R).1 (zG bs R).2 (i + 1) 4),zI (upQ bs (zG bs R).1 (zG bs R).2 (i + 1) 5),.int .u16 (0)]) (by simp only [zbL hX_])) ?_
   have hS_:upS bs (zG bs R).1 (zG bs R).2 (i + 1) = (upS bs (zG bs R).1 (zG bs R).2 i):=zcn hz_
   refine cl (·.reblk (.s .z) (cs':=[v,nI ((upS bs (zG bs R).1 (zG bs R).2 (i + 1)).p),nI ((upS bs (zG bs R).1 (zG bs R).2 (i + 1)).e)]) (by rw [hS_])) ?_
   intro a w hs;refine ⟨_,?_,(i + 1),rfl,hs.sub (.c rfl (.c rfl (.c rfl (.c rfl (.c rfl .n))))),by omega,(zLZ (m:=(zG bs R).1) (R:=(zG bs R).2) (bs:=bs) (by omega) (i + 1)).1⟩
   omega
  have hz_:=zZJ (m:=(zG bs R).1) (i:=i) (by assumption)
  refine go 2 [] [29,28,6,0,1,4,18,19] .n ?_
  intro a w hs;refine zAX hs (.c rfl .n) call174 (.c .z .n) (zH1  g _ _ bs (upS bs (zG bs R).1 (zG bs R).2 i) _ (hs.mem.rd1 hb (.c .z .n)) (hs.mem.del .z) (by omega)) rfl ?_
  have hk8:=zDM (bs:=bs) (R:=(upS bs (zG bs R).1 (zG bs R).2 i)) (by omega)
  intro a w hs;refine zTm hs rfl rfl ?_
  have hX_:=zb7 (bs:=bs) (R:=(zG bs R).2) hz_
  intro a w hs;refine zQb (cs':=[zI k,zI id,zI (upQ bs (zG bs R).1 (zG bs R).2 (i + 1) 0),zI (upQ bs (zG bs R).1 (zG bs R).2 (i + 1) 1),zI (upQ bs (zG bs R).1 (zG bs R).2 (i + 1) 2),zI (upQ bs (zG bs R).1 (zG bs R).2 (i + 1) 3),zI (upQ bs (zG bs R).1 (zG bs R).2 (i + 1) 4),zI (upQ bs (zG bs R).1 (zG bs R).2 (i + 1) 5),.int .u16 (0)]) hs rfl rfl (.s .z) (by show 2 + i < 9;omega) (by rw [← hX_];exact zXG (by omega)) rfl sizeOf2 ?_
  refine goL 1 [] [32,0,1,4,18,19] .n ?_
  intro a w hs;refine zTm hs rfl rfl ?_
  intro a w hs;refine zKK (v:=zI ((zAB bs (upS bs (zG bs R).1 (zG bs R).2 i)).1)) hs rfl (hs.mem.del .z) (by rw [← hX_];exact zZX (by omega)) isAgg2 rfl ?_
  refine goL 1 [] [35,0,1,4,18,19] .n ?_
  refine ifG rfl (fun c_9=>?_) (fun c_9=>?_)
  ·
   refine go 1 [] [36,0,1,4,18,19] .n ?_
   intro a w hs;refine zAX hs (.c rfl (.c rfl .n)) call173 (.c (.s .z) .n) (zDe 7 g _ _ bs ((zAB bs (upS bs (zG bs R).1 (zG bs R).2 i)).2) _ (hs.mem.rd1 hb (.c (.s .z) .n)) (hs.mem.del (.s .z)) (by omega)) rfl ?_
   have hk10:=zBU (e:=7) (bs:=bs) (R:=((zAB bs (upS bs (zG bs R).1 (zG bs R).2 i)).2)) (by omega)
   refine zPx 6 2 [] [19,0,1,4,18] .n ⟨(by omega),?_⟩
   refine go 0 [] [19,0,1,4,18] .n ?_
   have hS_:upS bs (zG bs R).1 (zG bs R).2 (i + 1) = (zBi 7 ((zAB bs (upS bs (zG bs R).1 (zG bs R).2 i)).2)):=zc2 hz_ (by assumption)
   refine cl (·.reblk .z (cs':=[v,nI ((upS bs (zG bs R).1 (zG bs R).2 (i + 1)).p),nI ((upS bs (zG bs R).1 (zG bs R).2 (i + 1)).e)]) (by rw [hS_])) ?_
   intro a w hs;refine ⟨_,?_,(i + 1),rfl,hs.sub (.c rfl (.c rfl (.c rfl (.c rfl (.c rfl .n))))),by omega,(zLZ (m:=(zG bs R).1) (R:=(zG bs R).2) (bs:=bs) (by omega) (i + 1)).1⟩
   omega
  refine goF 6 2 [] [19,0,1,4,18] .n ⟨(by omega),?_⟩
  refine go 0 [] [19,0,1,4,18] .n ?_
  have hS_:upS bs (zG bs R).1 (zG bs R).2 (i + 1) = ((zAB bs (upS bs (zG bs R).1 (zG bs R).2 i)).2):=zc6 hz_ (by assumption)
  refine cl (·.reblk (.s .z) (cs':=[v,nI ((upS bs (zG bs R).1 (zG bs R).2 (i + 1)).p),nI ((upS bs (zG bs R).1 (zG bs R).2 (i + 1)).e)]) (by rw [hS_])) ?_
  intro a w hs;refine ⟨_,?_,(i + 1),rfl,hs.sub (.c rfl (.c rfl (.c rfl (.c rfl (.c rfl .n))))),by omega,(zLZ (m:=(zG bs R).1) (R:=(zG bs R).2) (bs:=bs) (by omega) (i + 1)).1⟩
  omega
 obtain rfl:i = 6:=by omega
 refine cl (·.reblk (.s .z) (cs':=[zI k,zI id,zI (upX bs (zG bs R).1 (zG bs R).2 0),zI (upX bs (zG bs R).1 (zG bs R).2 1),zI (upX bs (zG bs R).1 (zG bs R).2 2),zI (upX bs (zG bs R).1 (zG bs R).2 3),zI (upX bs (zG bs R).1 (zG bs R).2 4),zI (upX bs (zG bs R).1 (zG bs R).2 5),.int .u16 (0)]) rfl) ?_
 refine go 1 [] [39,0,1] .n ?_
 intro a w hs;refine zLh (X:=(zG bs R).1) (Y:=64#8) hs rfl rfl rfl (by decide) rfl ?_
 refine zPx 1 1 [] [41,0,1] .n ?_
 have hua:=zA1 (X:=65535#64) (bs:=bs) (R:=(upS bs (zG bs R).1 (zG bs R).2 6)) (by omega)
 refine go 0 [] [41,0,1] .n ?_
 refine ifG rfl (fun c_11=>?_) (fun c_11=>?_)
 ·
  have hz6:=zTc (by assumption)
  refine go 2 [] [43,42,0,1] .n ?_
  intro a w hs;refine zAX hs (.c rfl (.c rfl .n)) call171 (.c (.s .z) .n) (zEB (65535#64) g _ _ bs (upS bs (zG bs R).1 (zG bs R).2 6) _ (hs.mem.rd1 hb (.c (.s .z) .n)) (hs.mem.del (.s .z)) (by omega)) rfl ?_
  have hk12:=zA1 (X:=65535#64) (bs:=bs) (R:=(upS bs (zG bs R).1 (zG bs R).2 6)) (by omega)
  intro a w hs;refine zFy (X:=(zN bs (65535#64) (upS bs (zG bs R).1 (zG bs R).2 6)).1) hs rfl rfl underlying167 underlying41 rfl ?_
  refine zPx 12 8 [0,0] [52,0] (.c (.s .z) .n) ⟨rfl,rfl,?_⟩
  have hsw:=zc4 (X:=(zN bs 65535#64 (upS bs (zG bs R).1 (zG bs R).2 6)).1) (by have:(65535#64).toNat = 65535:=rfl;omega)
  refine go 0 [] [52,0] .n ?_
  refine ifG rfl (fun c_13=>?_) (fun c_13=>?_)
  ·
   refine go 1 [] [53] .n ?_
   intro a w hs;refine zAX hs (.c rfl (.c rfl .n)) call173 (.c (.s .z) .n) (zDe 7 g _ _ bs ((zN bs (65535#64) (upS bs (zG bs R).1 (zG bs R).2 6)).2) _ (hs.mem.rd1 hb (.c (.s .z) .n)) (hs.mem.del (.s .z)) (by omega)) rfl ?_
   have hk14:=zBU (e:=7) (bs:=bs) (R:=((zN bs (65535#64) (upS bs (zG bs R).1 (zG bs R).2 6)).2)) (by omega)
   refine goL 0 [] [] .n ?_
   intro a w hs;exact zIu hs rfl (by rw [zIh (by omega) (by first | exact zXj hz6 | exact zXY hz6 (by omega) | exact zZB hz6 (by omega))];exact ⟨rfl,rfl⟩)
  refine go 0 [] [] .n ?_
  refine cl (·.reorder (.c (.s .z) (.c .z .n))) ?_
  intro a w hs;exact zIu hs rfl (by rw [zIh (by omega) (by first | exact zXj hz6 | exact zXY hz6 (by omega) | exact zZB hz6 (by omega))];exact ⟨rfl,rfl⟩)
 have hz6:=zVN (by assumption)
 refine go 0 [] [] .n ?_
 refine cl (·.reorder (.c (.s .z) (.c .z .n))) ?_
 intro a w hs;exact zIu hs rfl (by rw [zIh (by omega) (by first | exact zXj hz6 | exact zXY hz6 (by omega) | exact zZB hz6 (by omega))];exact ⟨rfl,rfl⟩)
theorem zQh (x y:Value) (w0:World):Calls Tryz.prog 129 #[x,y] w0 (zAe w0 (.tuple #[])):=by
 refine zD (F0:=[(0,x),(1,y)]) func129 rfl rfl rfl (.c (.c .n)) (Mem.nil _) ?_
 refine go 0 [] [] .n ?_
 intro a w hs;exact zIu hs rfl ⟨rfl,rfl⟩
theorem zYu (g:Nat) (v:Value) (m:Nat) (bs:List zP) (R:Rs) (last:Int) (w0:World) (hb:Rd w0 [g] v 1 m (zC bs)) (hg:(blk g [v,nI ((R).p),nI ((R).e)] 281).p w0) (hle:R.p ≤ bs.length) (hl : -9223372036854775808 ≤ last ∧ last ≤ 9223372036854775807):Calls Tryz.prog 176 #[pt g 0,.int .i64 last] w0 (Ret w0 [g] fun u N=>u = Value.tuple #[.agg #[zI (((zAH bs last R).1).k),zI (((zAH bs last R).1).id),zI (((zAH bs last R).1).p0),zI (((zAH bs last R).1).p1),zI (((zAH bs last R).1).p2),zI (((zAH bs last R).1).v0),zI (((zAH bs last R).1).v1),zI (((zAH bs last R).1).v2),.int .u16 (((((zAH bs last R).1).a).toNat:Nat):Int)],nI ((zAH bs last R).2.1)] ∧ N = [blk g [v,nI (((zAH bs last R).2.2).p),nI (((zAH bs last R).2.2).e)] 281]):=by
 have hbl:bs.length = m:=by have:=hb.len;simpa [zC] using this
 have hbe:m ≤ maxLen:=hb.le
 simp only [maxLen] at hbe
 refine zD (F0:=[(0,pt g 0),(1,zI last)]) func176 rfl rfl rfl (.c (.c .n)) (zAl hg) ?_
 refine go 9 [] [16,4,0,1] .n (fun g1=>?_)
 intro a w hs;refine zY (b:=decide (last < (-1))) (fun c_2=>?_) (fun c_2=>?_)
 ·
  rw [c_2] at hs
  replace c_2:=of_decide_eq_true c_2
  revert a w hs
  refine go 8 [0] [5,4] (.c .z .n) ⟨rfl,?_⟩
  have hq_:zAH bs last R = (zOL,3,R):=by first | exact zEj (by omega) | exact zEy (by omega) | exact zD1 (by omega) (by omega) hraw (by omega) | exact zFT (by omega) (by omega) hraw (by omega)
  intro a w hs;exact zBJ hs rfl rfl rfl .z (.z (.c (.c (.c (.c (.c (.c (.c (.c (.c .n)))))))))) isAgg55 sizeOf55 (.c .z .n) (by rw [hq_];exact ⟨rfl,rfl⟩)
 rw [c_2] at hs
 replace c_2:=of_decide_eq_false c_2
 revert a w hs
 refine go 4 [] [13,4,0,1] .n ?_
 refine ifG rfl (fun c_3=>?_) (fun c_3=>?_)
 ·
  refine go 3 [0] [5,4] (.c .z .n) ⟨rfl,?_⟩
  have hq_:zAH bs last R = (zOL,3,R):=by first | exact zEj (by omega) | exact zEy (by omega) | exact zD1 (by omega) (by omega) hraw (by omega) | exact zFT (by omega) (by omega) hraw (by omega)
  intro a w hs;exact zBJ hs rfl rfl rfl .z (.z (.c (.c (.c (.c (.c (.c (.c (.c (.c .n)))))))))) isAgg55 sizeOf55 (.c .z .n) (by rw [hq_];exact ⟨rfl,rfl⟩)
 refine go 3 [] [21,4,0,1] .n ?_
 refine ifG rfl (fun c_4=>?_) (fun c_4=>?_)
 ·
  refine go 1 [] [24,4,0] .n ?_
  intro a w hs;refine zAX hs (.c rfl (.c rfl .n)) call173 (.c (.s .z) .n) (zDe 10 g _ _ bs R _ (hs.mem.rd1 hb (.c (.s .z) .n)) (hs.mem.del (.s .z)) (by omega)) rfl ?_
  have hk5:=zBU (e:=10) (bs:=bs) (R:=R) (by omega)
  refine goL 2 [] [27,26,4] .n ?_
  intro a w hs;refine zB (v:=nI ((zBi 10 R).e)) hs (.c rfl .n) call177 (zGx g _ _ bs (zBi 10 R) _ (hs.rd0 hb) (hs.mem.del .z) (by omega)) rfl ?_
  refine goL 2 [0] [5,4] (.c (.s .z) .n) ⟨rfl,?_⟩
  have hq_:zAH bs last R = (zOL,(zBi 10 R).e,(zBi 10 R)):=by first | exact zEj (by omega) | exact zEy (by omega) | exact zD1 (by omega) (by omega) hraw (by omega) | exact zFT (by omega) (by omega) hraw (by omega)
  intro a w hs;exact zBJ hs rfl rfl rfl .z (.z (.c (.c (.c (.c (.c (.c (.c (.c (.c .n)))))))))) isAgg55 sizeOf55 (.c .z .n) (by rw [hq_];exact ⟨rfl,rfl⟩)
 refine go 5 [0] [6,4,0] .n ⟨(by omega),fun g6=>⟨rfl,?_⟩⟩
 intro a w hs
 have hk8:=zA1 (X:=BitVec.ofInt 64 (65534 - last)) (bs:=bs) (R:=R) (by omega)
 refine zAU [.p [] [],.l [0] [0] [11] [],.p [] [],.p [] [],.l [3] [0] [11] [],.v [4] (zI (65534 - last)),.v [5] (qI (BitVec.ofInt 64 (65534 - last))),.y [6,2] (qI ((zN bs (BitVec.ofInt 64 (65534 - last)) R).1)) [blk g [v,nI R.p,nI R.e] 281] [] [] fun vs7=>[blk g [v,nI (((zN bs (BitVec.ofInt 64 (65534 - last)) R).2).p),nI (((zN bs (BitVec.ofInt 64 (65534 - last)) R).2).e)] 281],.v [7] (nI ((zN bs (BitVec.ofInt 64 (65534 - last)) R).1.toNat)),.p [8,1] [],.p [] [],.s [10,9] [0] [0] []] [] hs (.c .z .n) (.c (.s .z) .n) .n (by kernel_rfl) ⟨rfl,rfl,?_,fun _ _ _ _ hm hs K=>zAb hs rfl underlying3 underlying167 rfl (vk K),?_,(by have:=zRu (bs:=bs) (last:=last) (R:=R) (by omega) (by omega) (by omega);omega),rfl,⟨(.c (.s .z) (.c .z .n)),by kernel_rfl,fun _=>rfl,rfl,rfl⟩,⟨?_,trivial⟩,?_⟩
 ·
  intro a_ w_ R_ Q_ hm hs K_
  refine zH5 hs rfl rfl (by omega) rfl ?_;clear hs;intro a w hs
  replace hs:=hs.recell (v':=zI (65534 - last)) (Option.some.inj (congrArg (fun z=>some (Value.int .i64 z)) (show 65535 - (last + 1) = 65534 - last by omega)))
  exact wpList_nil (K_ _ _ hs)
 ·
  intro a_ w_ R_ Q_ hm hs K_
  refine zAN (X:=(zN bs (BitVec.ofInt 64 (65534 - last)) R).1) hs rfl rfl underlying167 underlying3 rfl ?_;clear hs;intro a w hs
  replace hs:=hs.recell (v':=nI ((zN bs (BitVec.ofInt 64 (65534 - last)) R).1.toNat)) (Option.some.inj (congrArg (fun z=>some (Value.int .i64 z)) (zVV (bs:=bs) (R:=R) (by omega) (by omega) (by omega))))
  exact wpList_nil (K_ _ _ hs)
 ·
  intro a_ w_ R_ rest_ vs7 hm hs ht hx
  have hs0:=hs.bare
  refine zK hs (.c rfl (.c rfl .n)) call171 (.c .z .n) (zEB (BitVec.ofInt 64 (65534 - last)) g _ _ bs R _ (hm.rd1 hb (zC4.app _ _)) (hs.mem.del .z) (by omega)) rfl ?_;clear hs;rintro _ _ a w ⟨rfl,rfl⟩ hs
  have hk8:=zA1 (X:=BitVec.ofInt 64 (65534 - last)) (bs:=bs) (R:=R) (by omega)
  exact wpList_nil ⟨rfl,_,_,hs0,(.c (.c .r)),hs,rfl⟩
 clear hs w a;intro vs7 a w hs hf
 clear hf
 revert a w hs
 refine goE 1 [] [43,6,4,0] .n ?_
 intro a w hs;refine zAX hs (.c rfl .n) call172 (.c (.s .z) .n) (zKO  g _ _ bs ((zN bs (BitVec.ofInt 64 (65534 - last)) R).2) _ (hs.mem.rd1 hb (.c (.s .z) .n)) (hs.mem.del (.s .z)) (by omega)) rfl ?_
 have hk9:=zEM (bs:=bs) (R:=((zN bs (BitVec.ofInt 64 (65534 - last)) R).2)) (by omega)
 intro a w hs;refine zB2 hs rfl (bvr ((zG bs ((zN bs (BitVec.ofInt 64 (65534 - last)) R).2)).1)) underlying5 underlying3 rfl ?_
 refine goL 2 [0] [6,4,0] (.c (.s (.s .z)) .n) ⟨rfl,?_⟩
 intro a w hs;refine zB (v:=.agg #[.func (.func 130) #[] #[],.func (.func 131) #[] #[],.func (.func 132) #[] #[],.func (.func 133) #[] #[],.func (.func 128) #[] #[],.func (.func 129) #[] #[],.func (.func 130) #[] #[],.func (.func 131) #[] #[]]) hs .n call92 (zGc _) rfl ?_
 refine zPx 11 5 [0,1] [50,7,6,4,0] (.c .z .n) (fun g10=>⟨rfl,rfl,?_⟩)
 intro a w hs;refine zZ6 (fun a w=>∃ rr:zX,∃ RR:Rs,St 67 [(0,pt g 0),(4,pt g1 0),(6,pt g6 0)] w0 [g] [blk g [v,nI RR.p,nI RR.e] 281,blk g6 [zI rr.k,zI rr.id,zI rr.p0,zI rr.p1,zI rr.p2,zI rr.v0,zI rr.v1,zI rr.v2,.int .u16 (((rr.a).toNat:Nat):Int)] 55,blk g1 [zI 0,zI 0,zI 0,zI 0,zI 0,zI 0,zI 0,zI 0,.int .u16 (0)] 55] a w ∧ zEa bs last R = (rr,RR) ∧ RR.p ≤ bs.length) ?_ ?_
 ·
  revert a w hs;refine ifG rfl (fun c_11=>?_) (fun c_11=>?_)
  ·
   rcases (show (((zG bs (zN bs (BitVec.ofInt 64 (65534 - last)) R).2).1.toNat:Nat):Int) = 0 ∨ (((zG bs (zN bs (BitVec.ofInt 64 (65534 - last)) R).2).1.toNat:Nat):Int) = 1 ∨ (((zG bs (zN bs (BitVec.ofInt 64 (65534 - last)) R).2).1.toNat:Nat):Int) = 2 ∨ (((zG bs (zN bs (BitVec.ofInt 64 (65534 - last)) R).2).1.toNat:Nat):Int) = 3 from by omega) with hk12 | hk12 | hk12 | hk12
   ·
    refine go 2 [0] [52,7,6,4,0] (.c (.s .z) .n) ⟨rfl,?_⟩
    refine cl (·.recell (v':=zI 0) (Option.some.inj (congrArg (fun z=>some (Value.int .i64 z)) hk12))) ?_
    refine go 4 [0] [56,55,6,4,0] (.c (.s .z) .n) ⟨rfl,?_⟩
    intro a w hs;refine zA6 (us:=[]) hs rfl (.c rfl (.c rfl .n)) rfl call131 (.c (.s (.s .z)) (.c (.s .z) .n)) (zJP g g6 _ _ bs ((zG bs ((zN bs (BitVec.ofInt 64 (65534 - last)) R).2)).2) ((((zG bs ((zN bs (BitVec.ofInt 64 (65534 - last)) R).2)).1).toNat:Nat):Int) ((last + 1) + (((zN bs (BitVec.ofInt 64 (65534 - last)) R).1.toNat:Nat):Int)) _ (hs.mem.rd1 hb (.c (.s (.s .z)) (.c (.s .z) .n))) (hs.mem.del (.s (.s .z))) (hs.mem.del (.s .z)) (by omega)) rfl ?_;clear hs w a;rintro _ _ a w ⟨rfl,rfl⟩ hs
    have hk13:=zKe (bs:=bs) (k:=((((zG bs ((zN bs (BitVec.ofInt 64 (65534 - last)) R).2)).1).toNat:Nat):Int)) (id:=(last + 1) + (((zN bs (BitVec.ofInt 64 (65534 - last)) R).1.toNat:Nat):Int)) (R:=((zG bs ((zN bs (BitVec.ofInt 64 (65534 - last)) R).2)).2)) (by omega)
    revert a w hs
    refine goL 0 [] [6,4,0] .n ?_
    refine cl (·.drop (.c (.s (.s .z)) .n)) ?_
    intro a w hs;exact ⟨((zCF bs ((((zG bs ((zN bs (BitVec.ofInt 64 (65534 - last)) R).2)).1).toNat:Nat):Int) ((last + 1) + (((zN bs (BitVec.ofInt 64 (65534 - last)) R).1.toNat:Nat):Int)) ((zG bs ((zN bs (BitVec.ofInt 64 (65534 - last)) R).2)).2)).1),((zCF bs ((((zG bs ((zN bs (BitVec.ofInt 64 (65534 - last)) R).2)).1).toNat:Nat):Int) ((last + 1) + (((zN bs (BitVec.ofInt 64 (65534 - last)) R).1.toNat:Nat):Int)) ((zG bs ((zN bs (BitVec.ofInt 64 (65534 - last)) R).2)).2)).2),hs.sub (.c rfl (.c rfl (.c rfl .n))),zMh ((zGT _ _ _).trans (zG8 (by omega))),by omega⟩
   ·
    refine go 2 [0] [52,7,6,4,0] (.c (.s .z) .n) ⟨rfl,?_⟩
    refine cl (·.recell (v':=zI 1) (Option.some.inj (congrArg (fun z=>some (Value.int .i64 z)) hk12))) ?_
    refine go 4 [0] [56,55,6,4,0] (.c (.s .z) .n) ⟨rfl,?_⟩
    intro a w hs;refine zA6 (us:=[]) hs rfl (.c rfl (.c rfl .n)) rfl call133 (.c (.s (.s .z)) (.c (.s .z) .n)) (zNB g g6 _ _ bs ((zG bs ((zN bs (BitVec.ofInt 64 (65534 - last)) R).2)).2) ((((zG bs ((zN bs (BitVec.ofInt 64 (65534 - last)) R).2)).1).toNat:Nat):Int) ((last + 1) + (((zN bs (BitVec.ofInt 64 (65534 - last)) R).1.toNat:Nat):Int)) _ (hs.mem.rd1 hb (.c (.s (.s .z)) (.c (.s .z) .n))) (hs.mem.del (.s (.s .z))) (hs.mem.del (.s .z)) (by omega)) rfl ?_;clear hs w a;rintro _ _ a w ⟨rfl,rfl⟩ hs
    have hk14:=zLF (bs:=bs) (k:=((((zG bs ((zN bs (BitVec.ofInt 64 (65534 - last)) R).2)).1).toNat:Nat):Int)) (id:=(last + 1) + (((zN bs (BitVec.ofInt 64 (65534 - last)) R).1.toNat:Nat):Int)) (R:=((zG bs ((zN bs (BitVec.ofInt 64 (65534 - last)) R).2)).2)) (by omega)
    revert a w hs
    refine goL 0 [] [6,4,0] .n ?_
    refine cl (·.drop (.c (.s (.s .z)) .n)) ?_
    intro a w hs;exact ⟨((zA3 bs ((((zG bs ((zN bs (BitVec.ofInt 64 (65534 - last)) R).2)).1).toNat:Nat):Int) ((last + 1) + (((zN bs (BitVec.ofInt 64 (65534 - last)) R).1.toNat:Nat):Int)) ((zG bs ((zN bs (BitVec.ofInt 64 (65534 - last)) R).2)).2)).1),((zA3 bs ((((zG bs ((zN bs (BitVec.ofInt 64 (65534 - last)) R).2)).1).toNat:Nat):Int) ((last + 1) + (((zN bs (BitVec.ofInt 64 (65534 - last)) R).1.toNat:Nat):Int)) ((zG bs ((zN bs (BitVec.ofInt 64 (65534 - last)) R).2)).2)).2),hs.sub (.c rfl (.c rfl (.c rfl .n))),zMh ((zGT _ _ _).trans (zH9 (by omega))),by omega⟩
   ·
    refine go 2 [0] [52,7,6,4,0] (.c (.s .z) .n) ⟨rfl,?_⟩
    refine cl (·.recell (v':=zI 2) (Option.some.inj (congrArg (fun z=>some (Value.int .i64 z)) hk12))) ?_
    refine go 4 [0] [56,55,6,4,0] (.c (.s .z) .n) ⟨rfl,?_⟩
    intro a w hs;refine zBa (us:=[]) (v:=.tuple #[]) hs rfl (.c rfl (.c rfl .n)) rfl call129 (zQh _ _ _) rfl ?_
    refine goL 0 [] [6,4,0] .n ?_
    refine cl (·.drop (.c .z .n)) ?_
    refine cl (·.reorder (.c (.s .z) (.c .z (.c .z .n)))) ?_
    intro a w hs;exact ⟨(⟨((((zG bs ((zN bs (BitVec.ofInt 64 (65534 - last)) R).2)).1).toNat:Nat):Int),(last + 1) + (((zN bs (BitVec.ofInt 64 (65534 - last)) R).1.toNat:Nat):Int),0,0,0,0,0,0,0#16⟩ : zX),((zG bs ((zN bs (BitVec.ofInt 64 (65534 - last)) R).2)).2),hs.sub (.c rfl (.c rfl (.c rfl .n))),(zGT _ _ _).trans (zID (by omega)),by omega⟩
   refine go 2 [0] [52,7,6,4,0] (.c (.s .z) .n) ⟨rfl,?_⟩
   refine cl (·.recell (v':=zI 3) (Option.some.inj (congrArg (fun z=>some (Value.int .i64 z)) hk12))) ?_
   refine go 4 [0] [56,55,6,4,0] (.c (.s .z) .n) ⟨rfl,?_⟩
   intro a w hs;refine zA6 (us:=[]) hs rfl (.c rfl (.c rfl .n)) rfl call131 (.c (.s (.s .z)) (.c (.s .z) .n)) (zJP g g6 _ _ bs ((zG bs ((zN bs (BitVec.ofInt 64 (65534 - last)) R).2)).2) ((((zG bs ((zN bs (BitVec.ofInt 64 (65534 - last)) R).2)).1).toNat:Nat):Int) ((last + 1) + (((zN bs (BitVec.ofInt 64 (65534 - last)) R).1.toNat:Nat):Int)) _ (hs.mem.rd1 hb (.c (.s (.s .z)) (.c (.s .z) .n))) (hs.mem.del (.s (.s .z))) (hs.mem.del (.s .z)) (by omega)) rfl ?_;clear hs w a;rintro _ _ a w ⟨rfl,rfl⟩ hs
   have hk15:=zKe (bs:=bs) (k:=((((zG bs ((zN bs (BitVec.ofInt 64 (65534 - last)) R).2)).1).toNat:Nat):Int)) (id:=(last + 1) + (((zN bs (BitVec.ofInt 64 (65534 - last)) R).1.toNat:Nat):Int)) (R:=((zG bs ((zN bs (BitVec.ofInt 64 (65534 - last)) R).2)).2)) (by omega)
   revert a w hs
   refine goL 0 [] [6,4,0] .n ?_
   refine cl (·.drop (.c (.s (.s .z)) .n)) ?_
   intro a w hs;exact ⟨((zCF bs ((((zG bs ((zN bs (BitVec.ofInt 64 (65534 - last)) R).2)).1).toNat:Nat):Int) ((last + 1) + (((zN bs (BitVec.ofInt 64 (65534 - last)) R).1.toNat:Nat):Int)) ((zG bs ((zN bs (BitVec.ofInt 64 (65534 - last)) R).2)).2)).1),((zCF bs ((((zG bs ((zN bs (BitVec.ofInt 64 (65534 - last)) R).2)).1).toNat:Nat):Int) ((last + 1) + (((zN bs (BitVec.ofInt 64 (65534 - last)) R).1.toNat:Nat):Int)) ((zG bs ((zN bs (BitVec.ofInt 64 (65534 - last)) R).2)).2)).2),hs.sub (.c rfl (.c rfl (.c rfl .n))),zMh ((zGT _ _ _).trans (zG8 (by omega))),by omega⟩
  refine go 1 [] [58,6,4,0] .n ?_
  intro a w hs;refine zAX hs (.c rfl (.c rfl .n)) call173 (.c (.s (.s .z)) .n) (zDe 11 g _ _ bs ((zG bs ((zN bs (BitVec.ofInt 64 (65534 - last)) R).2)).2) _ (hs.mem.rd1 hb (.c (.s (.s .z)) .n)) (hs.mem.del (.s (.s .z))) (by omega)) rfl ?_
  have hk16:=zBU (e:=11) (bs:=bs) (R:=((zG bs ((zN bs (BitVec.ofInt 64 (65534 - last)) R).2)).2)) (by omega)
  refine goL 0 [] [6,4,0] .n ?_
  refine cl (·.drop (.c (.s .z) .n)) ?_
  intro a w hs;exact ⟨(⟨((((zG bs ((zN bs (BitVec.ofInt 64 (65534 - last)) R).2)).1).toNat:Nat):Int),(last + 1) + (((zN bs (BitVec.ofInt 64 (65534 - last)) R).1.toNat:Nat):Int),0,0,0,0,0,0,0#16⟩ : zX),(zBi 11 ((zG bs ((zN bs (BitVec.ofInt 64 (65534 - last)) R).2)).2)),hs.sub (.c rfl (.c rfl (.c rfl .n))),(zGT _ _ _).trans (zPa (by omega)),by omega⟩
 clear hs w a;rintro a w ⟨rr,RR,hs,hJ17,hJ18⟩
 have hraw:=hJ17
 revert a w hs
 refine go 1 [] [60,4,6] .n ?_
 intro a w hs;refine zB (v:=nI RR.e) hs (.c rfl .n) call177 (zGx g _ _ bs RR _ (hs.rd0 hb) (hs.mem.del .z) (by omega)) rfl ?_
 refine goL 3 [] [63,8,4,6] .n ?_
 refine ifG rfl (fun c_19=>?_) (fun c_19=>?_)
 ·
  refine go 4 [0] [5,4] (.c (.s (.s .z)) .n) ⟨rfl,?_⟩
  have hq_:zAH bs last R = (zOL,RR.e,RR):=by first | exact zEj (by omega) | exact zEy (by omega) | exact zD1 (by omega) (by omega) hraw (by omega) | exact zFT (by omega) (by omega) hraw (by omega)
  intro a w hs;exact zBJ hs rfl rfl rfl .z (.z (.c (.c (.c (.c (.c (.c (.c (.c (.c .n)))))))))) isAgg55 sizeOf55 (.c (.s (.s .z)) (.c .z .n)) (by rw [hq_];exact ⟨rfl,rfl⟩)
 refine go 3 [0,1] [5,4] (.c (.s .z) (.c (.s .z) .n)) ⟨rfl,rfl,?_⟩
 have hq_:zAH bs last R = (rr,0,RR):=by first | exact zEj (by omega) | exact zEy (by omega) | exact zD1 (by omega) (by omega) hraw (by omega) | exact zFT (by omega) (by omega) hraw (by omega)
 intro a w hs;exact zBJ hs rfl rfl rfl (.s .z) (.z (.c (.c (.c (.c (.c (.c (.c (.c (.c .n)))))))))) isAgg55 sizeOf55 (.c (.s .z) (.c .z .n)) (by rw [hq_];exact ⟨rfl,rfl⟩)
end Go.Proofs.YtajjkegcfmhghaaGreat
