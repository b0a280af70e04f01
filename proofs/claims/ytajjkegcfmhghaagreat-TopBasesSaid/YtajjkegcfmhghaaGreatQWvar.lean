import Derived.Test.YtajjkegcfmhghaaGreatQSxBasB
import Derived.Test.YtajjkegcfmhghaaGreatQSxRecs
import Derived.KernelRfl
import Derived.Test.YtajjkegcfmhghaaGreatProg
/- Walks of varint: what each function does, over the program of this seat. Printed by a program of this session. -/
namespace Go.Proofs.YtajjkegcfmhghaaGreat
open Tryz
open Go Go.Sx Go.RowKit
set_option linter.unusedVariables false
set_option linter.unusedSimpArgs false
set_option maxRecDepth 4000
set_option maxHeartbeats 1000000

theorem zNd (X:BitVec 64) (w0:World):Calls Tryz.prog 168 #[.int .u64 (X.toNat:Int)] w0 (zAe w0 (nI (zAp X.toNat))):=by
 have hx:=X.isLt
 refine zD (F0:=[(0,qI X)]) func168 rfl rfl rfl (.c .n) (Mem.nil _) ?_
 refine go 3 [] [4,2,0] .n ?_
 refine ifG rfl (fun c_1=>?_) (fun c_1=>?_)
 ·
  have l32:=zZg X 32 (by omega)
  have s32:=zEP X 32
  intro a w hs;simp only [Nat.reducePow] at s32
  revert a w hs
  refine go 1 [] [5] .n ?_
  intro a w hs;refine zAM (X:=X) (m:=32) hs rfl rfl rfl (by decide) rfl ?_
  refine goL 4 [] [8,2,0] .n ?_
  refine ifG rfl (fun c_2=>?_) (fun c_2=>?_)
  ·
   have l16:=zZg (X >>> 32) 16 (by omega)
   have s16:=zEP (X >>> 32) 16
   intro a w hs;simp only [Nat.reducePow] at s16
   revert a w hs
   refine go 1 [] [9,2] .n ?_
   intro a w hs;refine zAM (X:=X >>> 32) (m:=16) hs rfl rfl rfl (by decide) rfl ?_
   refine goL 6 [] [14,2,0] .n ⟨by decide,?_⟩
   refine ifG rfl (fun c_3=>?_) (fun c_3=>?_)
   ·
    have l8:=zZg ((X >>> 32) >>> 16) 8 (by omega)
    have s8:=zEP ((X >>> 32) >>> 16) 8
    intro a w hs;simp only [Nat.reducePow] at s8
    revert a w hs
    refine go 1 [] [15,2] .n ?_
    intro a w hs;refine zAM (X:=(X >>> 32) >>> 16) (m:=8) hs rfl rfl rfl (by decide) rfl ?_
    refine goL 6 [] [20,19] .n ⟨by decide,?_⟩
    intro a w hs;refine zBA (X:=((X >>> 32) >>> 16) >>> 8) hs rfl rfl underlying167 underlying5 rfl ?_
    intro a w hs;refine zHB (Y:=(((X >>> 32) >>> 16) >>> 8).setWidth 8) hs rfl rfl rfl underlying9 zDl rfl ?_
    intro a w hs;refine zB2 hs rfl (bvr (BitVec.ofNat 8 (zAp ((((X >>> 32) >>> 16) >>> 8).setWidth 8).toNat))) underlying5 underlying3 rfl ?_
    refine goL 2 [] [2] .n ⟨(by omega),?_⟩
    have l9:=zW2 (((X >>> 32) >>> 16) >>> 8) (by omega)
    intro a w hs;exact fin hs rfl rfl ⟨congrArg (Value.int .i64) (by omega),rfl⟩
   refine go 2 [] [20,19] .n ?_
   intro a w hs;refine zBA (X:=(X >>> 32) >>> 16) hs rfl rfl underlying167 underlying5 rfl ?_
   intro a w hs;refine zHB (Y:=((X >>> 32) >>> 16).setWidth 8) hs rfl rfl rfl underlying9 zDl rfl ?_
   intro a w hs;refine zB2 hs rfl (bvr (BitVec.ofNat 8 (zAp (((X >>> 32) >>> 16).setWidth 8).toNat))) underlying5 underlying3 rfl ?_
   refine goL 2 [] [2] .n ⟨(by omega),?_⟩
   have l9:=zW2 ((X >>> 32) >>> 16) (by omega)
   intro a w hs;exact fin hs rfl rfl ⟨congrArg (Value.int .i64) (by omega),rfl⟩
  refine go 2 [] [14,2,0] .n ?_
  refine ifG rfl (fun c_4=>?_) (fun c_4=>?_)
  ·
   have l8:=zZg (X >>> 32) 8 (by omega)
   have s8:=zEP (X >>> 32) 8
   intro a w hs;simp only [Nat.reducePow] at s8
   revert a w hs
   refine go 1 [] [15,2] .n ?_
   intro a w hs;refine zAM (X:=X >>> 32) (m:=8) hs rfl rfl rfl (by decide) rfl ?_
   refine goL 6 [] [20,19] .n ⟨by decide,?_⟩
   intro a w hs;refine zBA (X:=(X >>> 32) >>> 8) hs rfl rfl underlying167 underlying5 rfl ?_
   intro a w hs;refine zHB (Y:=((X >>> 32) >>> 8).setWidth 8) hs rfl rfl rfl underlying9 zDl rfl ?_
   intro a w hs;refine zB2 hs rfl (bvr (BitVec.ofNat 8 (zAp (((X >>> 32) >>> 8).setWidth 8).toNat))) underlying5 underlying3 rfl ?_
   refine goL 2 [] [2] .n ⟨(by omega),?_⟩
   have l9:=zW2 ((X >>> 32) >>> 8) (by omega)
   intro a w hs;exact fin hs rfl rfl ⟨congrArg (Value.int .i64) (by omega),rfl⟩
  refine go 2 [] [20,19] .n ?_
  intro a w hs;refine zBA (X:=X >>> 32) hs rfl rfl underlying167 underlying5 rfl ?_
  intro a w hs;refine zHB (Y:=(X >>> 32).setWidth 8) hs rfl rfl rfl underlying9 zDl rfl ?_
  intro a w hs;refine zB2 hs rfl (bvr (BitVec.ofNat 8 (zAp ((X >>> 32).setWidth 8).toNat))) underlying5 underlying3 rfl ?_
  refine goL 2 [] [2] .n ⟨(by omega),?_⟩
  have l9:=zW2 (X >>> 32) (by omega)
  intro a w hs;exact fin hs rfl rfl ⟨congrArg (Value.int .i64) (by omega),rfl⟩
 refine go 2 [] [8,2,0] .n ?_
 refine ifG rfl (fun c_5=>?_) (fun c_5=>?_)
 ·
  have l16:=zZg X 16 (by omega)
  have s16:=zEP X 16
  intro a w hs;simp only [Nat.reducePow] at s16
  revert a w hs
  refine go 1 [] [9,2] .n ?_
  intro a w hs;refine zAM (X:=X) (m:=16) hs rfl rfl rfl (by decide) rfl ?_
  refine goL 6 [] [14,2,0] .n ⟨by decide,?_⟩
  refine ifG rfl (fun c_6=>?_) (fun c_6=>?_)
  ·
   have l8:=zZg (X >>> 16) 8 (by omega)
   have s8:=zEP (X >>> 16) 8
   intro a w hs;simp only [Nat.reducePow] at s8
   revert a w hs
   refine go 1 [] [15,2] .n ?_
   intro a w hs;refine zAM (X:=X >>> 16) (m:=8) hs rfl rfl rfl (by decide) rfl ?_
   refine goL 6 [] [20,19] .n ⟨by decide,?_⟩
   intro a w hs;refine zBA (X:=(X >>> 16) >>> 8) hs rfl rfl underlying167 underlying5 rfl ?_
   intro a w hs;refine zHB (Y:=((X >>> 16) >>> 8).setWidth 8) hs rfl rfl rfl underlying9 zDl rfl ?_
   intro a w hs;refine zB2 hs rfl (bvr (BitVec.ofNat 8 (zAp (((X >>> 16) >>> 8).setWidth 8).toNat))) underlying5 underlying3 rfl ?_
   refine goL 2 [] [2] .n ⟨(by omega),?_⟩
   have l9:=zW2 ((X >>> 16) >>> 8) (by omega)
   intro a w hs;exact fin hs rfl rfl ⟨congrArg (Value.int .i64) (by omega),rfl⟩
  refine go 2 [] [20,19] .n ?_
  intro a w hs;refine zBA (X:=X >>> 16) hs rfl rfl underlying167 underlying5 rfl ?_
  intro a w hs;refine zHB (Y:=(X >>> 16).setWidth 8) hs rfl rfl rfl underlying9 zDl rfl ?_
  intro a w hs;refine zB2 hs rfl (bvr (BitVec.ofNat 8 (zAp ((X >>> 16).setWidth 8).toNat))) underlying5 underlying3 rfl ?_
  refine goL 2 [] [2] .n ⟨(by omega),?_⟩
  have l9:=zW2 (X >>> 16) (by omega)
  intro a w hs;exact fin hs rfl rfl ⟨congrArg (Value.int .i64) (by omega),rfl⟩
 refine go 2 [] [14,2,0] .n ?_
 refine ifG rfl (fun c_7=>?_) (fun c_7=>?_)
 ·
  have l8:=zZg X 8 (by omega)
  have s8:=zEP X 8
  intro a w hs;simp only [Nat.reducePow] at s8
  revert a w hs
  refine go 1 [] [15,2] .n ?_
  intro a w hs;refine zAM (X:=X) (m:=8) hs rfl rfl rfl (by decide) rfl ?_
  refine goL 6 [] [20,19] .n ⟨by decide,?_⟩
  intro a w hs;refine zBA (X:=X >>> 8) hs rfl rfl underlying167 underlying5 rfl ?_
  intro a w hs;refine zHB (Y:=(X >>> 8).setWidth 8) hs rfl rfl rfl underlying9 zDl rfl ?_
  intro a w hs;refine zB2 hs rfl (bvr (BitVec.ofNat 8 (zAp ((X >>> 8).setWidth 8).toNat))) underlying5 underlying3 rfl ?_
  refine goL 2 [] [2] .n ⟨(by omega),?_⟩
  have l9:=zW2 (X >>> 8) (by omega)
  intro a w hs;exact fin hs rfl rfl ⟨congrArg (Value.int .i64) (by omega),rfl⟩
 refine go 2 [] [20,19] .n ?_
 intro a w hs;refine zBA (X:=X) hs rfl rfl underlying167 underlying5 rfl ?_
 intro a w hs;refine zHB (Y:=(X).setWidth 8) hs rfl rfl rfl underlying9 zDl rfl ?_
 intro a w hs;refine zB2 hs rfl (bvr (BitVec.ofNat 8 (zAp ((X).setWidth 8).toNat))) underlying5 underlying3 rfl ?_
 refine goL 2 [] [2] .n ⟨(by omega),?_⟩
 have l9:=zW2 X (by omega)
 intro a w hs;exact fin hs rfl rfl ⟨congrArg (Value.int .i64) (by omega),rfl⟩
theorem zXl (X:BitVec 64) (w0:World):Calls Tryz.prog 127 #[.int .u64 (X.toNat:Int)] w0 (zAe w0 (nI (zBX X.toNat))):=by
 have hx:=X.isLt
 have hl:=zDT hx
 refine zD (F0:=[(0,qI X)]) func127 rfl rfl rfl (.c .n) (Mem.nil _) ?_
 refine go 2 [] [3] .n ?_
 intro a w hs;refine zB (v:=nI (zAp X.toNat)) hs (.c rfl .n) call168 (zNd X _) rfl ?_
 refine goL 3 [] [7] .n ⟨(by omega),(by omega),?_⟩
 intro a w hs;refine zZm hs rfl rfl (by omega) rfl ?_
 refine goL 1 [] [2] .n ?_
 intro a w hs;exact fin hs rfl rfl ⟨congrArg (Value.int .i64) (zUs X),rfl⟩
theorem zES (X:BitVec 64) (w0:World):Calls Tryz.prog 90 #[.int .u64 (X.toNat:Int)] w0 (Ret w0 [] fun r N=>N = [row r 5 1 (zBX X.toNat) (zC (zCQ X.toNat))]):=by
 have hvl:=zC2 X.toNat
 have hvp:=zC9 X.toNat
 refine zD (F0:=[(0,qI X)]) func90 rfl rfl rfl (.c .n) (Mem.nil _) ?_
 refine go 2 [] [5,0] .n ?_
 intro a w hs;refine zB (v:=nI (zBX X.toNat)) hs (.c rfl .n) call127 (zXl X _) rfl ?_
 intro a w hs;refine zcO (m:=zBX X.toNat) (bytes:=1) hs rfl rfl underlying28 (i:=Tryz.t5) rfl rfl rfl rfl (by show 1 * (zBX X.toNat) ≤ 281474976710656;omega) (by omega) rfl ?_;intro v1
 refine cl (·.rerow .z (m':=zBX X.toNat) (xs':=zC (zMO X (zBX X.toNat) 0)) (by omega) (by simp [zC,zMF,zMO])) ?_
 refine goL 2 [] [8,3,0] .n ?_
 intro a w hs;refine zAE hs rfl (zO (hs.mem.del .z)).isSl underlying28 rfl ?_
 refine goL 1 [] [10,9,3,0] .n ?_
 intro a w hs;refine zCJ (fun mm_ a w=>∃ k:Nat,mm_ = zBX X.toNat - k ∧ St 32 [(0,qI X),(3,v1),(9,nI (zBX X.toNat)),(10,zI (k:Int))] w0 [] [row v1 5 1 (zBX X.toNat) (zC (zMO X (zBX X.toNat) k))] a w ∧ k ≤ zBX X.toNat) ⟨0,rfl,hs.sub (.c rfl (.c rfl (.c rfl (.c rfl .n)))),by omega⟩ ?_
 clear hs w a;rintro mm_ a w ⟨k,rfl,hs,hI1_0⟩
 have hlp:=zDL X (zBX X.toNat) k
 revert a w hs
 refine go 1 [] [11,0,3,9,10] .n ?_
 refine ifG rfl (fun c_2=>?_) (fun c_2=>?_)
 ·
  refine go 7 [] [17,15,14,13,0,3,9,10] .n ⟨(by omega),?_⟩
  have hv_:(7 * (k:Int):Int) = (((7 * k:Nat):Int):Int):=by omega
  intro a w hs;rw [hv_] at hs;clear hv_
  refine zAM (X:=X) (m:=(7 * k)) hs rfl rfl rfl rfl rfl ?_
  intro a w hs;refine zBA (X:=X >>> (7 * k)) hs rfl rfl underlying167 underlying5 rfl ?_
  intro a w hs;refine zKs (X:=(X >>> (7 * k)).setWidth 8) (Y:=128#8) hs rfl rfl rfl (by decide) rfl ?_
  intro a w hs;refine zA2 (j:=k) hs rfl rfl (zO (hs.mem.del .z)) rfl (by omega) underlying28 sizeOf5 rfl ?_
  intro a w hs;refine zOp hs rfl rfl .z (by omega) rfl sizeOf5 ?_
  refine cl (·.rerow .z (m':=zBX X.toNat) (xs':=zC ((zMO X (zBX X.toNat) k).set k (((X >>> (7 * k)).setWidth 8) ||| (128#8)))) (rfl) ((zFR _ _ _).symm)) ?_
  refine goL 2 [] [10,0,3,9] .n ⟨(by omega),?_⟩
  intro a w hs;refine ⟨_,?_,k + 1,rfl,hs.sub (.c rfl (.c rfl (.c rfl (.c rfl .n)))),by omega⟩
  omega
 refine go 2 [] [24,23,3] .n ?_
 intro a w hs;refine zAE hs rfl (zO (hs.mem.del .z)).isSl underlying28 rfl ?_
 refine goL 1 [] [26,23,3] .n ⟨(by omega),?_⟩
 have hv_:(((zBX X.toNat:Nat):Int) - 1:Int) = (((zBX X.toNat - 1:Nat):Int):Int):=by omega
 intro a w hs;rw [hv_] at hs;clear hv_
 refine zA2 (j:=(zBX X.toNat - 1)) hs rfl rfl (zO (hs.mem.del .z)) rfl (by omega) underlying28 sizeOf5 rfl ?_
 intro a w hs;refine zBr hs rfl (zO (hs.mem.del .z)) (zB4 (zMO X (zBX X.toNat) k) (by first | omega | (simp;omega))) isAgg5 rfl ?_
 intro a w hs;refine zE2 (X:=(zMO X (zBX X.toNat) k).getD (zBX X.toNat - 1) 0) (Y:=128#8) hs rfl rfl rfl (by decide) rfl ?_
 intro a w hs;refine zA2 (j:=(zBX X.toNat - 1)) hs rfl rfl (zO (hs.mem.del .z)) rfl (by omega) underlying28 sizeOf5 rfl ?_
 intro a w hs;refine zOp hs rfl rfl .z (by omega) rfl sizeOf5 ?_
 refine cl (·.rerow .z (m':=zBX X.toNat) (xs':=zC ((zMO X (zBX X.toNat) k).set (zBX X.toNat - 1) (((zMO X (zBX X.toNat) k).getD (zBX X.toNat - 1) 0) &&& ~~~(128#8)))) (rfl) ((zFR _ _ _).symm)) ?_
 refine goL 2 [] [2] .n ?_
 intro a w hs;replace hs:=hs.rerow .z (m':=zBX X.toNat) (xs':=zC (zCQ X.toNat)) (by omega) (by rw [show k = zBX X.toNat by omega];exact congrArg zC (zar X _ rfl))
 exact fin hs rfl rfl rfl
theorem zbp (v:Value) (m:Nat) (bs:List zP) (w0:World) (hb:Rd w0 [] v 1 m (zC bs)):Calls Tryz.prog 201 #[v] w0 (zAe w0 (.tuple #[.int .u64 (((zCO bs).1.toNat:Nat):Int),nI ((zCO bs).2.1),nI ((zCO bs).2.2)])):=by
 have hbl:bs.length = m:=by have:=hb.len;simpa [zC] using this
 have hbe:m ≤ maxLen:=hb.le
 simp only [maxLen] at hbe
 refine zD (F0:=[(0,v)]) func201 rfl rfl rfl (.c .n) (Mem.nil _) ?_
 refine go 4 [] [9,0] .n ?_
 intro a w hs;refine zAE hs rfl (hs.rd0 hb).isSl underlying28 rfl ?_
 refine goL 1 [] [11,0] .n ?_
 refine ifG rfl (fun c_1=>?_) (fun c_1=>?_)
 ·
  refine go 3 [] [4,3,2] .n ?_
  intro a w hs;exact zE8 hs rfl rfl rfl rfl ⟨by first | (rw [zCI (by omega)];rfl) | (rw [zB1 (i:=i) hI1_2 (by omega) (by omega) (by omega) (by rw [← BitVec.toNat_inj];omega)];rfl) | (rw [zBz (i:=i) hI1_2 (by omega) (by omega) (by omega) (by omega)];rfl) | (rw [zCk (i:=i) hI1_2 (by omega) (by omega) (by omega) (by rw [← BitVec.toNat_inj];omega) (by omega),← zHX bs i (by omega) (by omega)];rfl) | (rw [zB0 (by omega)];rfl) | (rw [zBN (by omega) (by omega) (by omega)];rfl),rfl⟩
 refine go 2 [] [12,5,0] .n ?_
 intro a w hs;refine zAE hs rfl (hs.rd0 hb).isSl underlying28 rfl ?_
 refine goL 2 [] [15,14,5,0] .n ?_
 intro a w hs;refine zCJ (fun mm_ a w=>∃ i:Nat,mm_ = 10 - i ∧ St 60 [(0,v),(5,qI (BitVec.ofNat 64 (zEl (bs.take i)))),(14,zI (min (m:Int) 10)),(15,zI (i:Int))] w0 [] [] a w ∧ i ≤ m ∧ i ≤ 10 ∧ i ≤ zA5 10 bs) ⟨0,rfl,hs.sub (.c rfl (.c (congrArg (fun z:BitVec 64=>some (Value.int .u64 ((z.toNat:Nat):Int))) (show 0#64 = BitVec.ofNat 64 (zEl (bs.take 0)) by rw [List.take_zero];rfl)) (.c rfl (.c rfl .n)))),by omega,by omega,Nat.zero_le _⟩ ?_
 clear hs w a;rintro mm_ a w ⟨i,rfl,hs,hI1_0,hI1_1,hI1_2⟩
 revert a w hs
 refine go 1 [] [16,0,5,14,15] .n ?_
 refine ifG rfl (fun c_2=>?_) (fun c_2=>?_)
 ·
  refine go 4 [] [19,18,6,0,5,14,15] .n ?_
  intro a w hs;refine zA2 (j:=i) hs rfl rfl (hs.rd0 hb) rfl (by omega) underlying28 sizeOf5 rfl ?_
  intro a w hs;refine zBr hs rfl (hs.rd0 hb) (zB4 bs (by first | omega | (simp;omega))) isAgg5 rfl ?_
  refine goL 2 [] [22,7,6,0,5,14,15] .n ?_
  intro a w hs;refine zE2 (X:=bs.getD i 0) (Y:=128#8) hs rfl rfl rfl (by decide) rfl ?_
  intro a w hs;refine zHH (X:=(bs.getD i 0) &&& ~~~(128#8)) hs rfl rfl underlying5 underlying167 rfl ?_
  refine goL 2 [] [26,24,7,6,0,5,14,15] .n ⟨(by omega),?_⟩
  have hv_:(7 * (i:Int):Int) = (((7 * i:Nat):Int):Int):=by omega
  intro a w hs;rw [hv_] at hs;clear hv_
  refine zDA (X:=((bs.getD i 0) &&& ~~~(128#8)).setWidth 64) (m:=(7 * i)) hs rfl rfl rfl rfl rfl ?_
  refine goL 4 [] [30,28,8,7,6,0,5,14,15] .n ⟨(by omega),?_⟩
  have hv_:(7 * (i:Int):Int) = (((7 * i:Nat):Int):Int):=by omega
  intro a w hs;rw [hv_] at hs;clear hv_
  refine zAM (X:=(((bs.getD i 0) &&& ~~~(128#8)).setWidth 64) <<< (7 * i)) (m:=(7 * i)) hs rfl rfl rfl rfl rfl ?_
  refine goL 1 [] [32,31,8,7,6,0,5,14,15] .n ?_
  intro a w hs;refine zE2 (X:=bs.getD i 0) (Y:=128#8) hs rfl rfl rfl (by decide) rfl ?_
  intro a w hs;refine zHH (X:=(bs.getD i 0) &&& ~~~(128#8)) hs rfl rfl underlying5 underlying167 rfl ?_
  refine goL 2 [] [36,8,7,6,0,5,14,15] .n ?_
  intro a w hs;refine zY (b:=!(((((((((bs.getD i 0) &&& ~~~(128#8)).setWidth 64) <<< (7 * i)) >>> (7 * i)).toNat:Nat):Int):Int) == (((((bs.getD i 0) &&& ~~~(128#8)).setWidth 64).toNat:Nat):Int))) (fun c_3=>?_) (fun c_3=>?_)
  ·
   rw [c_3] at hs
   replace c_3:=zF5 c_3
   replace c_3:=zAW c_3
   revert a w hs
   refine go 3 [] [39,8,7,6,0,5,14,15] .n ?_
   refine ifG rfl (fun c_4=>?_) (fun c_4=>?_)
   ·
    refine go 3 [] [4,3,2] .n ?_
    intro a w hs;exact zE8 hs rfl rfl rfl rfl ⟨by first | (rw [zCI (by omega)];rfl) | (rw [zB1 (i:=i) hI1_2 (by omega) (by omega) (by omega) (by rw [← BitVec.toNat_inj];omega)];rfl) | (rw [zBz (i:=i) hI1_2 (by omega) (by omega) (by omega) (by omega)];rfl) | (rw [zCk (i:=i) hI1_2 (by omega) (by omega) (by omega) (by rw [← BitVec.toNat_inj];omega) (by omega),← zHX bs i (by omega) (by omega)];rfl) | (rw [zB0 (by omega)];rfl) | (rw [zBN (by omega) (by omega) (by omega)];rfl),rfl⟩
   refine go 2 [] [41,40,7,6,0,14,15] .n ?_
   intro a w hs;refine zF8 (X:=BitVec.ofNat 64 (zEl (bs.take i))) (Y:=(((bs.getD i 0) &&& ~~~(128#8)).setWidth 64) <<< (7 * i)) hs rfl rfl rfl rfl rfl ?_
   refine goL 4 [] [46,5,7,6,0,14,15] .n ?_
   refine ifG rfl (fun c_5=>?_) (fun c_5=>?_)
   ·
    refine go 2 [] [15,5,0,14] .n ⟨(by omega),?_⟩
    intro a w hs;rw [zHX bs i (by omega) (by omega)] at hs
    refine ⟨_,?_,i + 1,rfl,hs.sub (.c rfl (.c rfl (.c rfl (.c rfl .n)))),by omega,by omega,zFQ 10 i bs hI1_2 (by omega) (by omega) (by omega)⟩
    omega
   refine go 3 [] [52,5,6] .n ?_
   intro a w hs;refine zY (b:=((((bs.getD i 0).toNat:Nat):Int):Int) == 0) (fun c_6=>?_) (fun c_6=>?_)
   ·
    rw [c_6] at hs
    replace c_6:=eq_of_beq c_6
    revert a w hs
    refine go 4 [] [49,5,6] .n ?_
    refine ifG rfl (fun c_7=>?_) (fun c_7=>?_)
    ·
     refine go 3 [] [4,3,2] .n ?_
     intro a w hs;exact zE8 hs rfl rfl rfl rfl ⟨by first | (rw [zCI (by omega)];rfl) | (rw [zB1 (i:=i) hI1_2 (by omega) (by omega) (by omega) (by rw [← BitVec.toNat_inj];omega)];rfl) | (rw [zBz (i:=i) hI1_2 (by omega) (by omega) (by omega) (by omega)];rfl) | (rw [zCk (i:=i) hI1_2 (by omega) (by omega) (by omega) (by rw [← BitVec.toNat_inj];omega) (by omega),← zHX bs i (by omega) (by omega)];rfl) | (rw [zB0 (by omega)];rfl) | (rw [zBN (by omega) (by omega) (by omega)];rfl),rfl⟩
    refine go 6 [] [4,3,2] .n ⟨(by omega),?_⟩
    intro a w hs;exact zE8 hs rfl rfl rfl rfl ⟨by first | (rw [zCI (by omega)];rfl) | (rw [zB1 (i:=i) hI1_2 (by omega) (by omega) (by omega) (by rw [← BitVec.toNat_inj];omega)];rfl) | (rw [zBz (i:=i) hI1_2 (by omega) (by omega) (by omega) (by omega)];rfl) | (rw [zCk (i:=i) hI1_2 (by omega) (by omega) (by omega) (by rw [← BitVec.toNat_inj];omega) (by omega),← zHX bs i (by omega) (by omega)];rfl) | (rw [zB0 (by omega)];rfl) | (rw [zBN (by omega) (by omega) (by omega)];rfl),rfl⟩
   rw [c_6] at hs
   replace c_6:=zAW c_6
   revert a w hs
   refine go 11 [] [4,3,2] .n ⟨(by omega),?_⟩
   intro a w hs;exact zE8 hs rfl rfl rfl rfl ⟨by first | (rw [zCI (by omega)];rfl) | (rw [zB1 (i:=i) hI1_2 (by omega) (by omega) (by omega) (by rw [← BitVec.toNat_inj];omega)];rfl) | (rw [zBz (i:=i) hI1_2 (by omega) (by omega) (by omega) (by omega)];rfl) | (rw [zCk (i:=i) hI1_2 (by omega) (by omega) (by omega) (by rw [← BitVec.toNat_inj];omega) (by omega),← zHX bs i (by omega) (by omega)];rfl) | (rw [zB0 (by omega)];rfl) | (rw [zBN (by omega) (by omega) (by omega)];rfl),rfl⟩
  rw [c_3] at hs
  replace c_3:=zGF c_3
  replace c_3:=eq_of_beq c_3
  revert a w hs
  refine go 6 [] [41,40,7,6,0,14,15] .n ?_
  intro a w hs;refine zF8 (X:=BitVec.ofNat 64 (zEl (bs.take i))) (Y:=(((bs.getD i 0) &&& ~~~(128#8)).setWidth 64) <<< (7 * i)) hs rfl rfl rfl rfl rfl ?_
  refine goL 4 [] [46,5,7,6,0,14,15] .n ?_
  refine ifG rfl (fun c_8=>?_) (fun c_8=>?_)
  ·
   refine go 2 [] [15,5,0,14] .n ⟨(by omega),?_⟩
   intro a w hs;rw [zHX bs i (by omega) (by omega)] at hs
   refine ⟨_,?_,i + 1,rfl,hs.sub (.c rfl (.c rfl (.c rfl (.c rfl .n)))),by omega,by omega,zFQ 10 i bs hI1_2 (by omega) (by omega) (by omega)⟩
   omega
  refine go 3 [] [52,5,6] .n ?_
  intro a w hs;refine zY (b:=((((bs.getD i 0).toNat:Nat):Int):Int) == 0) (fun c_9=>?_) (fun c_9=>?_)
  ·
   rw [c_9] at hs
   replace c_9:=eq_of_beq c_9
   revert a w hs
   refine go 4 [] [49,5,6] .n ?_
   refine ifG rfl (fun c_10=>?_) (fun c_10=>?_)
   ·
    refine go 3 [] [4,3,2] .n ?_
    intro a w hs;exact zE8 hs rfl rfl rfl rfl ⟨by first | (rw [zCI (by omega)];rfl) | (rw [zB1 (i:=i) hI1_2 (by omega) (by omega) (by omega) (by rw [← BitVec.toNat_inj];omega)];rfl) | (rw [zBz (i:=i) hI1_2 (by omega) (by omega) (by omega) (by omega)];rfl) | (rw [zCk (i:=i) hI1_2 (by omega) (by omega) (by omega) (by rw [← BitVec.toNat_inj];omega) (by omega),← zHX bs i (by omega) (by omega)];rfl) | (rw [zB0 (by omega)];rfl) | (rw [zBN (by omega) (by omega) (by omega)];rfl),rfl⟩
   refine go 6 [] [4,3,2] .n ⟨(by omega),?_⟩
   intro a w hs;exact zE8 hs rfl rfl rfl rfl ⟨by first | (rw [zCI (by omega)];rfl) | (rw [zB1 (i:=i) hI1_2 (by omega) (by omega) (by omega) (by rw [← BitVec.toNat_inj];omega)];rfl) | (rw [zBz (i:=i) hI1_2 (by omega) (by omega) (by omega) (by omega)];rfl) | (rw [zCk (i:=i) hI1_2 (by omega) (by omega) (by omega) (by rw [← BitVec.toNat_inj];omega) (by omega),← zHX bs i (by omega) (by omega)];rfl) | (rw [zB0 (by omega)];rfl) | (rw [zBN (by omega) (by omega) (by omega)];rfl),rfl⟩
  rw [c_9] at hs
  replace c_9:=zAW c_9
  revert a w hs
  refine go 11 [] [4,3,2] .n ⟨(by omega),?_⟩
  intro a w hs;exact zE8 hs rfl rfl rfl rfl ⟨by first | (rw [zCI (by omega)];rfl) | (rw [zB1 (i:=i) hI1_2 (by omega) (by omega) (by omega) (by rw [← BitVec.toNat_inj];omega)];rfl) | (rw [zBz (i:=i) hI1_2 (by omega) (by omega) (by omega) (by omega)];rfl) | (rw [zCk (i:=i) hI1_2 (by omega) (by omega) (by omega) (by rw [← BitVec.toNat_inj];omega) (by omega),← zHX bs i (by omega) (by omega)];rfl) | (rw [zB0 (by omega)];rfl) | (rw [zBN (by omega) (by omega) (by omega)];rfl),rfl⟩
 refine go 1 [] [57] .n ?_
 intro a w hs;refine zAE hs rfl (hs.rd0 hb).isSl underlying28 rfl ?_
 refine goL 1 [] [59] .n ?_
 refine ifG rfl (fun c_11=>?_) (fun c_11=>?_)
 ·
  refine go 3 [] [4,3,2] .n ?_
  intro a w hs;exact zE8 hs rfl rfl rfl rfl ⟨by first | (rw [zCI (by omega)];rfl) | (rw [zB1 (i:=i) hI1_2 (by omega) (by omega) (by omega) (by rw [← BitVec.toNat_inj];omega)];rfl) | (rw [zBz (i:=i) hI1_2 (by omega) (by omega) (by omega) (by omega)];rfl) | (rw [zCk (i:=i) hI1_2 (by omega) (by omega) (by omega) (by rw [← BitVec.toNat_inj];omega) (by omega),← zHX bs i (by omega) (by omega)];rfl) | (rw [zB0 (by omega)];rfl) | (rw [zBN (by omega) (by omega) (by omega)];rfl),rfl⟩
 refine go 3 [] [4,3,2] .n ?_
 intro a w hs;exact zE8 hs rfl rfl rfl rfl ⟨by first | (rw [zCI (by omega)];rfl) | (rw [zB1 (i:=i) hI1_2 (by omega) (by omega) (by omega) (by rw [← BitVec.toNat_inj];omega)];rfl) | (rw [zBz (i:=i) hI1_2 (by omega) (by omega) (by omega) (by omega)];rfl) | (rw [zCk (i:=i) hI1_2 (by omega) (by omega) (by omega) (by rw [← BitVec.toNat_inj];omega) (by omega),← zHX bs i (by omega) (by omega)];rfl) | (rw [zB0 (by omega)];rfl) | (rw [zBN (by omega) (by omega) (by omega)];rfl),rfl⟩
theorem zQQ (p:Int) (w0:World) (hp : -9223372036854775808 ≤ p ∧ p ≤ 9223372036854775807):Calls Tryz.prog 89 #[.int .i64 p] w0 (zAe w0 (qI (zGf p))):=by
 refine zD (F0:=[(0,zI p)]) func89 rfl rfl rfl (.c .n) (Mem.nil _) ?_
 refine go 2 [] [3,0] .n ?_
 intro a w hs;refine zYH (m:=1) hs rfl rfl (by decide) rfl ?_
 intro a w hs;refine zAb hs rfl underlying2 underlying167 rfl ?_
 refine goL 1 [] [6,5] .n ?_
 intro a w hs;refine zQe (m:=63) hs rfl rfl (by decide) rfl ?_
 intro a w hs;refine zAb hs rfl underlying2 underlying167 rfl ?_
 intro a w hs;refine zO2 (X:=BitVec.ofInt 64 (IntKind.i64.wrap (p * 2 ^ (min 1 64)))) (Y:=BitVec.ofInt 64 ((p).fdiv (2 ^ (min 63 64)))) hs rfl rfl rfl rfl rfl ?_
 refine goL 1 [] [2] .n ?_
 intro a w hs;exact fin hs rfl rfl ⟨by rw [zaL p hp],rfl⟩
theorem zaB (X:BitVec 64) (w0:World):Calls Tryz.prog 204 #[.int .u64 (X.toNat:Int)] w0 (zAe w0 (zI (zO7 X))):=by
 refine zD (F0:=[(0,qI X)]) func204 rfl rfl rfl (.c .n) (Mem.nil _) ?_
 refine go 2 [] [3,0] .n ?_
 intro a w hs;refine zAM (X:=X) (m:=1) hs rfl rfl rfl (by decide) rfl ?_
 intro a w hs;refine zAN (X:=X >>> 1) hs rfl rfl underlying167 underlying2 rfl ?_
 refine goL 1 [] [6,5] .n ?_
 intro a w hs;refine zDD (X:=X) (Y:=1#64) hs rfl rfl rfl (by decide) rfl ?_
 intro a w hs;refine zAN (X:=X &&& (1#64)) hs rfl rfl underlying167 underlying2 rfl ?_
 refine goL 1 [] [9,5] .n ⟨(by rw [zaF];omega),?_⟩
 intro a w hs;refine zXF hs rfl rfl rfl ?_
 refine goL 1 [] [2] .n ?_
 intro a w hs;exact fin hs rfl rfl ⟨by rw [zaz X],rfl⟩
end Go.Proofs.YtajjkegcfmhghaaGreat
