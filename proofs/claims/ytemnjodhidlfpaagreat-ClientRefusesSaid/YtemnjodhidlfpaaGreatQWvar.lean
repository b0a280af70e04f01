import Derived.Test.YtemnjodhidlfpaaGreatQSxBasB
import Derived.Test.YtemnjodhidlfpaaGreatQSxRecs
import Derived.KernelRfl
import Derived.Test.YtemnjodhidlfpaaGreatProg
/- Walks of varint: what each function does, over the program of this seat. Printed by a program of this session. -/
namespace Go.Proofs.YtemnjodhidlfpaaGreat
open Tryz
open Go Go.Sx Go.RowKit
set_option linter.unusedVariables false
set_option linter.unusedSimpArgs false
set_option maxRecDepth 4000
set_option maxHeartbeats 1000000

theorem zNB (X:BitVec 64) (w0:World):Calls Tryz.prog 184 #[.int .u64 (X.toNat:Int)] w0 (zAf w0 (nI (zAq X.toNat))):=by
 have hx:=X.isLt
 refine zF (F0:=[(0,qI X)]) func184 rfl rfl rfl (.c .n) (Mem.nil _) ?_
 refine go 3 [] [4,2,0] .n ?_
 refine ifG rfl (fun c_1=>?_) (fun c_1=>?_)
 ·
  have l32:=zXi X 32 (by omega)
  have s32:=zEC X 32
  intro a w hs;simp only [Nat.reducePow] at s32
  revert a w hs
  refine go 1 [] [5] .n ?_
  intro a w hs;refine zAM (X:=X) (m:=32) hs rfl rfl rfl (by decide) rfl ?_
  refine goL 4 [] [8,2,0] .n ?_
  refine ifG rfl (fun c_2=>?_) (fun c_2=>?_)
  ·
   have l16:=zXi (X >>> 32) 16 (by omega)
   have s16:=zEC (X >>> 32) 16
   intro a w hs;simp only [Nat.reducePow] at s16
   revert a w hs
   refine go 1 [] [9,2] .n ?_
   intro a w hs;refine zAM (X:=X >>> 32) (m:=16) hs rfl rfl rfl (by decide) rfl ?_
   refine goL 6 [] [14,2,0] .n ⟨by decide,?_⟩
   refine ifG rfl (fun c_3=>?_) (fun c_3=>?_)
   ·
    have l8:=zXi ((X >>> 32) >>> 16) 8 (by omega)
    have s8:=zEC ((X >>> 32) >>> 16) 8
    intro a w hs;simp only [Nat.reducePow] at s8
    revert a w hs
    refine go 1 [] [15,2] .n ?_
    intro a w hs;refine zAM (X:=(X >>> 32) >>> 16) (m:=8) hs rfl rfl rfl (by decide) rfl ?_
    refine goL 6 [] [20,19] .n ⟨by decide,?_⟩
    intro a w hs;refine zBD (X:=((X >>> 32) >>> 16) >>> 8) hs rfl rfl underlying167 underlying5 rfl ?_
    intro a w hs;refine zHI (Y:=(((X >>> 32) >>> 16) >>> 8).setWidth 8) hs rfl rfl rfl underlying9 zDf rfl ?_
    intro a w hs;refine zB3 hs rfl (bvr (BitVec.ofNat 8 (zAq ((((X >>> 32) >>> 16) >>> 8).setWidth 8).toNat))) underlying5 underlying3 rfl ?_
    refine goL 2 [] [2] .n ⟨(by omega),?_⟩
    have l9:=zVl (((X >>> 32) >>> 16) >>> 8) (by omega)
    intro a w hs;exact fin hs rfl rfl ⟨congrArg (Value.int .i64) (by omega),rfl⟩
   refine go 2 [] [20,19] .n ?_
   intro a w hs;refine zBD (X:=(X >>> 32) >>> 16) hs rfl rfl underlying167 underlying5 rfl ?_
   intro a w hs;refine zHI (Y:=((X >>> 32) >>> 16).setWidth 8) hs rfl rfl rfl underlying9 zDf rfl ?_
   intro a w hs;refine zB3 hs rfl (bvr (BitVec.ofNat 8 (zAq (((X >>> 32) >>> 16).setWidth 8).toNat))) underlying5 underlying3 rfl ?_
   refine goL 2 [] [2] .n ⟨(by omega),?_⟩
   have l9:=zVl ((X >>> 32) >>> 16) (by omega)
   intro a w hs;exact fin hs rfl rfl ⟨congrArg (Value.int .i64) (by omega),rfl⟩
  refine go 2 [] [14,2,0] .n ?_
  refine ifG rfl (fun c_4=>?_) (fun c_4=>?_)
  ·
   have l8:=zXi (X >>> 32) 8 (by omega)
   have s8:=zEC (X >>> 32) 8
   intro a w hs;simp only [Nat.reducePow] at s8
   revert a w hs
   refine go 1 [] [15,2] .n ?_
   intro a w hs;refine zAM (X:=X >>> 32) (m:=8) hs rfl rfl rfl (by decide) rfl ?_
   refine goL 6 [] [20,19] .n ⟨by decide,?_⟩
   intro a w hs;refine zBD (X:=(X >>> 32) >>> 8) hs rfl rfl underlying167 underlying5 rfl ?_
   intro a w hs;refine zHI (Y:=((X >>> 32) >>> 8).setWidth 8) hs rfl rfl rfl underlying9 zDf rfl ?_
   intro a w hs;refine zB3 hs rfl (bvr (BitVec.ofNat 8 (zAq (((X >>> 32) >>> 8).setWidth 8).toNat))) underlying5 underlying3 rfl ?_
   refine goL 2 [] [2] .n ⟨(by omega),?_⟩
   have l9:=zVl ((X >>> 32) >>> 8) (by omega)
   intro a w hs;exact fin hs rfl rfl ⟨congrArg (Value.int .i64) (by omega),rfl⟩
  refine go 2 [] [20,19] .n ?_
  intro a w hs;refine zBD (X:=X >>> 32) hs rfl rfl underlying167 underlying5 rfl ?_
  intro a w hs;refine zHI (Y:=(X >>> 32).setWidth 8) hs rfl rfl rfl underlying9 zDf rfl ?_
  intro a w hs;refine zB3 hs rfl (bvr (BitVec.ofNat 8 (zAq ((X >>> 32).setWidth 8).toNat))) underlying5 underlying3 rfl ?_
  refine goL 2 [] [2] .n ⟨(by omega),?_⟩
  have l9:=zVl (X >>> 32) (by omega)
  intro a w hs;exact fin hs rfl rfl ⟨congrArg (Value.int .i64) (by omega),rfl⟩
 refine go 2 [] [8,2,0] .n ?_
 refine ifG rfl (fun c_5=>?_) (fun c_5=>?_)
 ·
  have l16:=zXi X 16 (by omega)
  have s16:=zEC X 16
  intro a w hs;simp only [Nat.reducePow] at s16
  revert a w hs
  refine go 1 [] [9,2] .n ?_
  intro a w hs;refine zAM (X:=X) (m:=16) hs rfl rfl rfl (by decide) rfl ?_
  refine goL 6 [] [14,2,0] .n ⟨by decide,?_⟩
  refine ifG rfl (fun c_6=>?_) (fun c_6=>?_)
  ·
   have l8:=zXi (X >>> 16) 8 (by omega)
   have s8:=zEC (X >>> 16) 8
   intro a w hs;simp only [Nat.reducePow] at s8
   revert a w hs
   refine go 1 [] [15,2] .n ?_
   intro a w hs;refine zAM (X:=X >>> 16) (m:=8) hs rfl rfl rfl (by decide) rfl ?_
   refine goL 6 [] [20,19] .n ⟨by decide,?_⟩
   intro a w hs;refine zBD (X:=(X >>> 16) >>> 8) hs rfl rfl underlying167 underlying5 rfl ?_
   intro a w hs;refine zHI (Y:=((X >>> 16) >>> 8).setWidth 8) hs rfl rfl rfl underlying9 zDf rfl ?_
   intro a w hs;refine zB3 hs rfl (bvr (BitVec.ofNat 8 (zAq (((X >>> 16) >>> 8).setWidth 8).toNat))) underlying5 underlying3 rfl ?_
   refine goL 2 [] [2] .n ⟨(by omega),?_⟩
   have l9:=zVl ((X >>> 16) >>> 8) (by omega)
   intro a w hs;exact fin hs rfl rfl ⟨congrArg (Value.int .i64) (by omega),rfl⟩
  refine go 2 [] [20,19] .n ?_
  intro a w hs;refine zBD (X:=X >>> 16) hs rfl rfl underlying167 underlying5 rfl ?_
  intro a w hs;refine zHI (Y:=(X >>> 16).setWidth 8) hs rfl rfl rfl underlying9 zDf rfl ?_
  intro a w hs;refine zB3 hs rfl (bvr (BitVec.ofNat 8 (zAq ((X >>> 16).setWidth 8).toNat))) underlying5 underlying3 rfl ?_
  refine goL 2 [] [2] .n ⟨(by omega),?_⟩
  have l9:=zVl (X >>> 16) (by omega)
  intro a w hs;exact fin hs rfl rfl ⟨congrArg (Value.int .i64) (by omega),rfl⟩
 refine go 2 [] [14,2,0] .n ?_
 refine ifG rfl (fun c_7=>?_) (fun c_7=>?_)
 ·
  have l8:=zXi X 8 (by omega)
  have s8:=zEC X 8
  intro a w hs;simp only [Nat.reducePow] at s8
  revert a w hs
  refine go 1 [] [15,2] .n ?_
  intro a w hs;refine zAM (X:=X) (m:=8) hs rfl rfl rfl (by decide) rfl ?_
  refine goL 6 [] [20,19] .n ⟨by decide,?_⟩
  intro a w hs;refine zBD (X:=X >>> 8) hs rfl rfl underlying167 underlying5 rfl ?_
  intro a w hs;refine zHI (Y:=(X >>> 8).setWidth 8) hs rfl rfl rfl underlying9 zDf rfl ?_
  intro a w hs;refine zB3 hs rfl (bvr (BitVec.ofNat 8 (zAq ((X >>> 8).setWidth 8).toNat))) underlying5 underlying3 rfl ?_
  refine goL 2 [] [2] .n ⟨(by omega),?_⟩
  have l9:=zVl (X >>> 8) (by omega)
  intro a w hs;exact fin hs rfl rfl ⟨congrArg (Value.int .i64) (by omega),rfl⟩
 refine go 2 [] [20,19] .n ?_
 intro a w hs;refine zBD (X:=X) hs rfl rfl underlying167 underlying5 rfl ?_
 intro a w hs;refine zHI (Y:=(X).setWidth 8) hs rfl rfl rfl underlying9 zDf rfl ?_
 intro a w hs;refine zB3 hs rfl (bvr (BitVec.ofNat 8 (zAq ((X).setWidth 8).toNat))) underlying5 underlying3 rfl ?_
 refine goL 2 [] [2] .n ⟨(by omega),?_⟩
 have l9:=zVl X (by omega)
 intro a w hs;exact fin hs rfl rfl ⟨congrArg (Value.int .i64) (by omega),rfl⟩
theorem zYY (X:BitVec 64) (w0:World):Calls Tryz.prog 185 #[.int .u64 (X.toNat:Int)] w0 (zAf w0 (nI (zBY X.toNat))):=by
 have hx:=X.isLt
 have hl:=zDW hx
 refine zF (F0:=[(0,qI X)]) func185 rfl rfl rfl (.c .n) (Mem.nil _) ?_
 refine go 2 [] [3] .n ?_
 intro a w hs;refine zB (v:=nI (zAq X.toNat)) hs (.c rfl .n) call184 (zNB X _) rfl ?_
 refine goL 3 [] [7] .n ⟨(by omega),(by omega),?_⟩
 intro a w hs;refine zWq hs rfl rfl (by omega) rfl ?_
 refine goL 1 [] [2] .n ?_
 intro a w hs;exact fin hs rfl rfl ⟨congrArg (Value.int .i64) (zSz X),rfl⟩
theorem zEQ (X:BitVec 64) (w0:World):Calls Tryz.prog 174 #[.int .u64 (X.toNat:Int)] w0 (Ret w0 [] fun r N=>N = [row r 5 1 (zBY X.toNat) (zD (zCS X.toNat))]):=by
 have hvl:=zC1 X.toNat
 have hvp:=zC8 X.toNat
 refine zF (F0:=[(0,qI X)]) func174 rfl rfl rfl (.c .n) (Mem.nil _) ?_
 refine go 2 [] [5,0] .n ?_
 intro a w hs;refine zB (v:=nI (zBY X.toNat)) hs (.c rfl .n) call185 (zYY X _) rfl ?_
 intro a w hs;refine za1 (m:=zBY X.toNat) (bytes:=1) hs rfl rfl underlying31 (i:=Tryz.t5) rfl rfl rfl rfl (by show 1 * (zBY X.toNat) ≤ 281474976710656;omega) (by omega) rfl ?_;intro v1
 refine cl (·.rerow .z (m':=zBY X.toNat) (xs':=zD (zL9 X (zBY X.toNat) 0)) (by omega) (by simp [zD,zLV,zL9])) ?_
 refine goL 2 [] [8,3,0] .n ?_
 intro a w hs;refine zW hs rfl (zK (hs.mem.del .z)).isSl underlying31 rfl ?_
 refine goL 1 [] [10,9,3,0] .n ?_
 intro a w hs;refine zCr (fun mm_ a w=>∃ k:Nat,mm_ = zBY X.toNat - k ∧ St 32 [(0,qI X),(3,v1),(9,nI (zBY X.toNat)),(10,zI (k:Int))] w0 [] [row v1 5 1 (zBY X.toNat) (zD (zL9 X (zBY X.toNat) k))] a w ∧ k ≤ zBY X.toNat) ⟨0,rfl,hs.sub (.c rfl (.c rfl (.c rfl (.c rfl .n)))),by omega⟩ ?_
 clear hs w a;rintro mm_ a w ⟨k,rfl,hs,hI1_0⟩
 have hlp:=zDT X (zBY X.toNat) k
 revert a w hs
 refine go 1 [] [11,0,3,9,10] .n ?_
 refine ifG rfl (fun c_2=>?_) (fun c_2=>?_)
 ·
  refine go 7 [] [17,15,14,13,0,3,9,10] .n ⟨(by omega),?_⟩
  have hv_:(7 * (k:Int):Int) = (((7 * k:Nat):Int):Int):=by omega
  intro a w hs;rw [hv_] at hs;clear hv_
  refine zAM (X:=X) (m:=(7 * k)) hs rfl rfl rfl rfl rfl ?_
  intro a w hs;refine zBD (X:=X >>> (7 * k)) hs rfl rfl underlying167 underlying5 rfl ?_
  intro a w hs;refine zJ5 (X:=(X >>> (7 * k)).setWidth 8) (Y:=128#8) hs rfl rfl rfl (by decide) rfl ?_
  intro a w hs;refine zA4 (j:=k) hs rfl rfl (zK (hs.mem.del .z)) rfl (by omega) underlying31 sizeOf5 rfl ?_
  intro a w hs;refine zM6 hs rfl rfl .z (by omega) rfl sizeOf5 ?_
  refine cl (·.rerow .z (m':=zBY X.toNat) (xs':=zD ((zL9 X (zBY X.toNat) k).set k (((X >>> (7 * k)).setWidth 8) ||| (128#8)))) (rfl) ((zE7 _ _ _).symm)) ?_
  refine goL 2 [] [10,0,3,9] .n ⟨(by omega),?_⟩
  intro a w hs;refine ⟨_,?_,k + 1,rfl,hs.sub (.c rfl (.c rfl (.c rfl (.c rfl .n)))),by omega⟩
  omega
 refine go 2 [] [24,23,3] .n ?_
 intro a w hs;refine zW hs rfl (zK (hs.mem.del .z)).isSl underlying31 rfl ?_
 refine goL 1 [] [26,23,3] .n ⟨(by omega),?_⟩
 have hv_:(((zBY X.toNat:Nat):Int) - 1:Int) = (((zBY X.toNat - 1:Nat):Int):Int):=by omega
 intro a w hs;rw [hv_] at hs;clear hv_
 refine zA4 (j:=(zBY X.toNat - 1)) hs rfl rfl (zK (hs.mem.del .z)) rfl (by omega) underlying31 sizeOf5 rfl ?_
 intro a w hs;refine zBn hs rfl (zK (hs.mem.del .z)) (zCA (zL9 X (zBY X.toNat) k) (by first | omega | (simp;omega))) isAgg5 rfl ?_
 intro a w hs;refine zEd (X:=(zL9 X (zBY X.toNat) k).getD (zBY X.toNat - 1) 0) (Y:=128#8) hs rfl rfl rfl (by decide) rfl ?_
 intro a w hs;refine zA4 (j:=(zBY X.toNat - 1)) hs rfl rfl (zK (hs.mem.del .z)) rfl (by omega) underlying31 sizeOf5 rfl ?_
 intro a w hs;refine zM6 hs rfl rfl .z (by omega) rfl sizeOf5 ?_
 refine cl (·.rerow .z (m':=zBY X.toNat) (xs':=zD ((zL9 X (zBY X.toNat) k).set (zBY X.toNat - 1) (((zL9 X (zBY X.toNat) k).getD (zBY X.toNat - 1) 0) &&& ~~~(128#8)))) (rfl) ((zE7 _ _ _).symm)) ?_
 refine goL 2 [] [2] .n ?_
 intro a w hs;replace hs:=hs.rerow .z (m':=zBY X.toNat) (xs':=zD (zCS X.toNat)) (by omega) (by rw [show k = zBY X.toNat by omega];exact congrArg zD (zal X _ rfl))
 exact fin hs rfl rfl rfl
theorem zZB (v:Value) (m:Nat) (bs:List zP) (w0:World) (hb:Rd w0 [] v 1 m (zD bs)):Calls Tryz.prog 130 #[v] w0 (zAf w0 (.tuple #[.int .u64 (((zCR bs).1.toNat:Nat):Int),nI ((zCR bs).2.1),nI ((zCR bs).2.2)])):=by
 have hbl:bs.length = m:=by have:=hb.len;simpa [zD] using this
 have hbe:m ≤ maxLen:=hb.le
 simp only [maxLen] at hbe
 refine zF (F0:=[(0,v)]) func130 rfl rfl rfl (.c .n) (Mem.nil _) ?_
 refine go 4 [] [9,0] .n ?_
 intro a w hs;refine zW hs rfl (hs.rd0 hb).isSl underlying31 rfl ?_
 refine goL 1 [] [11,0] .n ?_
 refine ifG rfl (fun c_1=>?_) (fun c_1=>?_)
 ·
  refine go 3 [] [4,3,2] .n ?_
  intro a w hs;exact zEf hs rfl rfl rfl rfl ⟨by first | (rw [zCM (by omega)];rfl) | (rw [zB5 (i:=i) hI1_2 (by omega) (by omega) (by omega) (by rw [← BitVec.toNat_inj];omega)];rfl) | (rw [zB1 (i:=i) hI1_2 (by omega) (by omega) (by omega) (by omega)];rfl) | (rw [zCh (i:=i) hI1_2 (by omega) (by omega) (by omega) (by rw [← BitVec.toNat_inj];omega) (by omega),← zHM bs i (by omega) (by omega)];rfl) | (rw [zB6 (by omega)];rfl) | (rw [zBN (by omega) (by omega) (by omega)];rfl),rfl⟩
 refine go 2 [] [12,5,0] .n ?_
 intro a w hs;refine zW hs rfl (hs.rd0 hb).isSl underlying31 rfl ?_
 refine goL 2 [] [15,14,5,0] .n ?_
 intro a w hs;refine zCr (fun mm_ a w=>∃ i:Nat,mm_ = 10 - i ∧ St 60 [(0,v),(5,qI (BitVec.ofNat 64 (zEe (bs.take i)))),(14,zI (min (m:Int) 10)),(15,zI (i:Int))] w0 [] [] a w ∧ i ≤ m ∧ i ≤ 10 ∧ i ≤ zA3 10 bs) ⟨0,rfl,hs.sub (.c rfl (.c (congrArg (fun z:BitVec 64=>some (Value.int .u64 ((z.toNat:Nat):Int))) (show 0#64 = BitVec.ofNat 64 (zEe (bs.take 0)) by rw [List.take_zero];rfl)) (.c rfl (.c rfl .n)))),by omega,by omega,Nat.zero_le _⟩ ?_
 clear hs w a;rintro mm_ a w ⟨i,rfl,hs,hI1_0,hI1_1,hI1_2⟩
 revert a w hs
 refine go 1 [] [16,0,5,14,15] .n ?_
 refine ifG rfl (fun c_2=>?_) (fun c_2=>?_)
 ·
  refine go 4 [] [19,18,6,0,5,14,15] .n ?_
  intro a w hs;refine zA4 (j:=i) hs rfl rfl (hs.rd0 hb) rfl (by omega) underlying31 sizeOf5 rfl ?_
  intro a w hs;refine zBn hs rfl (hs.rd0 hb) (zCA bs (by first | omega | (simp;omega))) isAgg5 rfl ?_
  refine goL 2 [] [22,7,6,0,5,14,15] .n ?_
  intro a w hs;refine zEd (X:=bs.getD i 0) (Y:=128#8) hs rfl rfl rfl (by decide) rfl ?_
  intro a w hs;refine zHH (X:=(bs.getD i 0) &&& ~~~(128#8)) hs rfl rfl underlying5 underlying167 rfl ?_
  refine goL 2 [] [26,24,7,6,0,5,14,15] .n ⟨(by omega),?_⟩
  have hv_:(7 * (i:Int):Int) = (((7 * i:Nat):Int):Int):=by omega
  intro a w hs;rw [hv_] at hs;clear hv_
  refine zDE (X:=((bs.getD i 0) &&& ~~~(128#8)).setWidth 64) (m:=(7 * i)) hs rfl rfl rfl rfl rfl ?_
  refine goL 4 [] [30,28,8,7,6,0,5,14,15] .n ⟨(by omega),?_⟩
  have hv_:(7 * (i:Int):Int) = (((7 * i:Nat):Int):Int):=by omega
  intro a w hs;rw [hv_] at hs;clear hv_
  refine zAM (X:=(((bs.getD i 0) &&& ~~~(128#8)).setWidth 64) <<< (7 * i)) (m:=(7 * i)) hs rfl rfl rfl rfl rfl ?_
  refine goL 1 [] [32,31,8,7,6,0,5,14,15] .n ?_
  intro a w hs;refine zEd (X:=bs.getD i 0) (Y:=128#8) hs rfl rfl rfl (by decide) rfl ?_
  intro a w hs;refine zHH (X:=(bs.getD i 0) &&& ~~~(128#8)) hs rfl rfl underlying5 underlying167 rfl ?_
  refine goL 2 [] [36,8,7,6,0,5,14,15] .n ?_
  intro a w hs;refine zT (b:=!(((((((((bs.getD i 0) &&& ~~~(128#8)).setWidth 64) <<< (7 * i)) >>> (7 * i)).toNat:Nat):Int):Int) == (((((bs.getD i 0) &&& ~~~(128#8)).setWidth 64).toNat:Nat):Int))) (fun c_3=>?_) (fun c_3=>?_)
  ·
   rw [c_3] at hs
   replace c_3:=zFg c_3
   replace c_3:=zAD c_3
   revert a w hs
   refine go 3 [] [39,8,7,6,0,5,14,15] .n ?_
   refine ifG rfl (fun c_4=>?_) (fun c_4=>?_)
   ·
    refine go 3 [] [4,3,2] .n ?_
    intro a w hs;exact zEf hs rfl rfl rfl rfl ⟨by first | (rw [zCM (by omega)];rfl) | (rw [zB5 (i:=i) hI1_2 (by omega) (by omega) (by omega) (by rw [← BitVec.toNat_inj];omega)];rfl) | (rw [zB1 (i:=i) hI1_2 (by omega) (by omega) (by omega) (by omega)];rfl) | (rw [zCh (i:=i) hI1_2 (by omega) (by omega) (by omega) (by rw [← BitVec.toNat_inj];omega) (by omega),← zHM bs i (by omega) (by omega)];rfl) | (rw [zB6 (by omega)];rfl) | (rw [zBN (by omega) (by omega) (by omega)];rfl),rfl⟩
   refine go 2 [] [41,40,7,6,0,14,15] .n ?_
   intro a w hs;refine zGG (X:=BitVec.ofNat 64 (zEe (bs.take i))) (Y:=(((bs.getD i 0) &&& ~~~(128#8)).setWidth 64) <<< (7 * i)) hs rfl rfl rfl rfl rfl ?_
   refine goL 4 [] [46,5,7,6,0,14,15] .n ?_
   refine ifG rfl (fun c_5=>?_) (fun c_5=>?_)
   ·
    refine go 2 [] [15,5,0,14] .n ⟨(by omega),?_⟩
    intro a w hs;rw [zHM bs i (by omega) (by omega)] at hs
    refine ⟨_,?_,i + 1,rfl,hs.sub (.c rfl (.c rfl (.c rfl (.c rfl .n)))),by omega,by omega,zFF 10 i bs hI1_2 (by omega) (by omega) (by omega)⟩
    omega
   refine go 3 [] [52,5,6] .n ?_
   intro a w hs;refine zT (b:=((((bs.getD i 0).toNat:Nat):Int):Int) == 0) (fun c_6=>?_) (fun c_6=>?_)
   ·
    rw [c_6] at hs
    replace c_6:=eq_of_beq c_6
    revert a w hs
    refine go 4 [] [49,5,6] .n ?_
    refine ifG rfl (fun c_7=>?_) (fun c_7=>?_)
    ·
     refine go 3 [] [4,3,2] .n ?_
     intro a w hs;exact zEf hs rfl rfl rfl rfl ⟨by first | (rw [zCM (by omega)];rfl) | (rw [zB5 (i:=i) hI1_2 (by omega) (by omega) (by omega) (by rw [← BitVec.toNat_inj];omega)];rfl) | (rw [zB1 (i:=i) hI1_2 (by omega) (by omega) (by omega) (by omega)];rfl) | (rw [zCh (i:=i) hI1_2 (by omega) (by omega) (by omega) (by rw [← BitVec.toNat_inj];omega) (by omega),← zHM bs i (by omega) (by omega)];rfl) | (rw [zB6 (by omega)];rfl) | (rw [zBN (by omega) (by omega) (by omega)];rfl),rfl⟩
    refine go 6 [] [4,3,2] .n ⟨(by omega),?_⟩
    intro a w hs;exact zEf hs rfl rfl rfl rfl ⟨by first | (rw [zCM (by omega)];rfl) | (rw [zB5 (i:=i) hI1_2 (by omega) (by omega) (by omega) (by rw [← BitVec.toNat_inj];omega)];rfl) | (rw [zB1 (i:=i) hI1_2 (by omega) (by omega) (by omega) (by omega)];rfl) | (rw [zCh (i:=i) hI1_2 (by omega) (by omega) (by omega) (by rw [← BitVec.toNat_inj];omega) (by omega),← zHM bs i (by omega) (by omega)];rfl) | (rw [zB6 (by omega)];rfl) | (rw [zBN (by omega) (by omega) (by omega)];rfl),rfl⟩
   rw [c_6] at hs
   replace c_6:=zAD c_6
   revert a w hs
   refine go 11 [] [4,3,2] .n ⟨(by omega),?_⟩
   intro a w hs;exact zEf hs rfl rfl rfl rfl ⟨by first | (rw [zCM (by omega)];rfl) | (rw [zB5 (i:=i) hI1_2 (by omega) (by omega) (by omega) (by rw [← BitVec.toNat_inj];omega)];rfl) | (rw [zB1 (i:=i) hI1_2 (by omega) (by omega) (by omega) (by omega)];rfl) | (rw [zCh (i:=i) hI1_2 (by omega) (by omega) (by omega) (by rw [← BitVec.toNat_inj];omega) (by omega),← zHM bs i (by omega) (by omega)];rfl) | (rw [zB6 (by omega)];rfl) | (rw [zBN (by omega) (by omega) (by omega)];rfl),rfl⟩
  rw [c_3] at hs
  replace c_3:=zFa c_3
  replace c_3:=eq_of_beq c_3
  revert a w hs
  refine go 6 [] [41,40,7,6,0,14,15] .n ?_
  intro a w hs;refine zGG (X:=BitVec.ofNat 64 (zEe (bs.take i))) (Y:=(((bs.getD i 0) &&& ~~~(128#8)).setWidth 64) <<< (7 * i)) hs rfl rfl rfl rfl rfl ?_
  refine goL 4 [] [46,5,7,6,0,14,15] .n ?_
  refine ifG rfl (fun c_8=>?_) (fun c_8=>?_)
  ·
   refine go 2 [] [15,5,0,14] .n ⟨(by omega),?_⟩
   intro a w hs;rw [zHM bs i (by omega) (by omega)] at hs
   refine ⟨_,?_,i + 1,rfl,hs.sub (.c rfl (.c rfl (.c rfl (.c rfl .n)))),by omega,by omega,zFF 10 i bs hI1_2 (by omega) (by omega) (by omega)⟩
   omega
  refine go 3 [] [52,5,6] .n ?_
  intro a w hs;refine zT (b:=((((bs.getD i 0).toNat:Nat):Int):Int) == 0) (fun c_9=>?_) (fun c_9=>?_)
  ·
   rw [c_9] at hs
   replace c_9:=eq_of_beq c_9
   revert a w hs
   refine go 4 [] [49,5,6] .n ?_
   refine ifG rfl (fun c_10=>?_) (fun c_10=>?_)
   ·
    refine go 3 [] [4,3,2] .n ?_
    intro a w hs;exact zEf hs rfl rfl rfl rfl ⟨by first | (rw [zCM (by omega)];rfl) | (rw [zB5 (i:=i) hI1_2 (by omega) (by omega) (by omega) (by rw [← BitVec.toNat_inj];omega)];rfl) | (rw [zB1 (i:=i) hI1_2 (by omega) (by omega) (by omega) (by omega)];rfl) | (rw [zCh (i:=i) hI1_2 (by omega) (by omega) (by omega) (by rw [← BitVec.toNat_inj];omega) (by omega),← zHM bs i (by omega) (by omega)];rfl) | (rw [zB6 (by omega)];rfl) | (rw [zBN (by omega) (by omega) (by omega)];rfl),rfl⟩
   refine go 6 [] [4,3,2] .n ⟨(by omega),?_⟩
   intro a w hs;exact zEf hs rfl rfl rfl rfl ⟨by first | (rw [zCM (by omega)];rfl) | (rw [zB5 (i:=i) hI1_2 (by omega) (by omega) (by omega) (by rw [← BitVec.toNat_inj];omega)];rfl) | (rw [zB1 (i:=i) hI1_2 (by omega) (by omega) (by omega) (by omega)];rfl) | (rw [zCh (i:=i) hI1_2 (by omega) (by omega) (by omega) (by rw [← BitVec.toNat_inj];omega) (by omega),← zHM bs i (by omega) (by omega)];rfl) | (rw [zB6 (by omega)];rfl) | (rw [zBN (by omega) (by omega) (by omega)];rfl),rfl⟩
  rw [c_9] at hs
  replace c_9:=zAD c_9
  revert a w hs
  refine go 11 [] [4,3,2] .n ⟨(by omega),?_⟩
  intro a w hs;exact zEf hs rfl rfl rfl rfl ⟨by first | (rw [zCM (by omega)];rfl) | (rw [zB5 (i:=i) hI1_2 (by omega) (by omega) (by omega) (by rw [← BitVec.toNat_inj];omega)];rfl) | (rw [zB1 (i:=i) hI1_2 (by omega) (by omega) (by omega) (by omega)];rfl) | (rw [zCh (i:=i) hI1_2 (by omega) (by omega) (by omega) (by rw [← BitVec.toNat_inj];omega) (by omega),← zHM bs i (by omega) (by omega)];rfl) | (rw [zB6 (by omega)];rfl) | (rw [zBN (by omega) (by omega) (by omega)];rfl),rfl⟩
 refine go 1 [] [57] .n ?_
 intro a w hs;refine zW hs rfl (hs.rd0 hb).isSl underlying31 rfl ?_
 refine goL 1 [] [59] .n ?_
 refine ifG rfl (fun c_11=>?_) (fun c_11=>?_)
 ·
  refine go 3 [] [4,3,2] .n ?_
  intro a w hs;exact zEf hs rfl rfl rfl rfl ⟨by first | (rw [zCM (by omega)];rfl) | (rw [zB5 (i:=i) hI1_2 (by omega) (by omega) (by omega) (by rw [← BitVec.toNat_inj];omega)];rfl) | (rw [zB1 (i:=i) hI1_2 (by omega) (by omega) (by omega) (by omega)];rfl) | (rw [zCh (i:=i) hI1_2 (by omega) (by omega) (by omega) (by rw [← BitVec.toNat_inj];omega) (by omega),← zHM bs i (by omega) (by omega)];rfl) | (rw [zB6 (by omega)];rfl) | (rw [zBN (by omega) (by omega) (by omega)];rfl),rfl⟩
 refine go 3 [] [4,3,2] .n ?_
 intro a w hs;exact zEf hs rfl rfl rfl rfl ⟨by first | (rw [zCM (by omega)];rfl) | (rw [zB5 (i:=i) hI1_2 (by omega) (by omega) (by omega) (by rw [← BitVec.toNat_inj];omega)];rfl) | (rw [zB1 (i:=i) hI1_2 (by omega) (by omega) (by omega) (by omega)];rfl) | (rw [zCh (i:=i) hI1_2 (by omega) (by omega) (by omega) (by rw [← BitVec.toNat_inj];omega) (by omega),← zHM bs i (by omega) (by omega)];rfl) | (rw [zB6 (by omega)];rfl) | (rw [zBN (by omega) (by omega) (by omega)];rfl),rfl⟩
theorem zPu (p:Int) (w0:World) (hp : -9223372036854775808 ≤ p ∧ p ≤ 9223372036854775807):Calls Tryz.prog 173 #[.int .i64 p] w0 (zAf w0 (qI (zGc p))):=by
 refine zF (F0:=[(0,zI p)]) func173 rfl rfl rfl (.c .n) (Mem.nil _) ?_
 refine go 2 [] [3,0] .n ?_
 intro a w hs;refine zXt (m:=1) hs rfl rfl (by decide) rfl ?_
 intro a w hs;refine zAZ hs rfl underlying2 underlying167 rfl ?_
 refine goL 1 [] [6,5] .n ?_
 intro a w hs;refine zSd (m:=63) hs rfl rfl (by decide) rfl ?_
 intro a w hs;refine zAZ hs rfl underlying2 underlying167 rfl ?_
 intro a w hs;refine zOf (X:=BitVec.ofInt 64 (IntKind.i64.wrap (p * 2 ^ (min 1 64)))) (Y:=BitVec.ofInt 64 ((p).fdiv (2 ^ (min 63 64)))) hs rfl rfl rfl rfl rfl ?_
 refine goL 1 [] [2] .n ?_
 intro a w hs;exact fin hs rfl rfl ⟨by rw [zaj p hp],rfl⟩
theorem zZG (X:BitVec 64) (w0:World):Calls Tryz.prog 131 #[.int .u64 (X.toNat:Int)] w0 (zAf w0 (zI (zPW X))):=by
 refine zF (F0:=[(0,qI X)]) func131 rfl rfl rfl (.c .n) (Mem.nil _) ?_
 refine go 2 [] [3,0] .n ?_
 intro a w hs;refine zAM (X:=X) (m:=1) hs rfl rfl rfl (by decide) rfl ?_
 intro a w hs;refine zAN (X:=X >>> 1) hs rfl rfl underlying167 underlying2 rfl ?_
 refine goL 1 [] [6,5] .n ?_
 intro a w hs;refine zDC (X:=X) (Y:=1#64) hs rfl rfl rfl (by decide) rfl ?_
 intro a w hs;refine zAN (X:=X &&& (1#64)) hs rfl rfl underlying167 underlying2 rfl ?_
 refine goL 1 [] [9,5] .n ⟨(by rw [zZ2];omega),?_⟩
 intro a w hs;refine zXq hs rfl rfl rfl ?_
 refine goL 1 [] [2] .n ?_
 intro a w hs;exact fin hs rfl rfl ⟨by rw [zak X],rfl⟩
end Go.Proofs.YtemnjodhidlfpaaGreat
