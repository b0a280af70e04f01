import Derived.Test.YtljpfgacpofkpaaGreatQG7
import Derived.Test.YtljpfgacpofkpaaGreatQSxBasB
import Derived.Test.YtljpfgacpofkpaaGreatQG9
import Derived.Test.YtljpfgacpofkpaaGreatProg
set_option linter.unusedVariables false
set_option linter.unusedSimpArgs false
namespace Go.Proofs.YtljpfgacpofkpaaGreat
open Tryz
open Go Go.Sx Go.RowKit
set_option maxRecDepth 4000
set_option maxHeartbeats 1000000
theorem zFn (b:Bool) (w0:World):Calls Tryz.prog 133 #[.bool (b)] w0 (zAh w0 (zI (stp b))):=by
 refine zG (F0:=[(0,.bool (b))]) func133 rfl rfl rfl (.c .n) (Mem.nil _) ?_
 refine go 2 [] [3] .n ?_
 refine ifG rfl (λc_1=>?_) (λc_1=>?_)
 ·
  refine go 1 [] [2] .n ?_
  intro a w hs;exact fin hs rfl rfl ⟨congrArg (Value.int .i64) (by subst_vars;rfl),rfl⟩
 refine go 1 [] [2] .n ?_
 intro a w hs;exact fin hs rfl rfl ⟨congrArg (Value.int .i64) (by subst_vars;rfl),rfl⟩
theorem zEr (x y:Int) (hx : -9223372036854775808≤x∧x≤9223372036854775807) (hy : -9223372036854775808≤y∧y≤9223372036854775807) (w0:World):Calls Tryz.prog 147 #[zI x,zI y] w0 (zAh w0 (zI (zC0 x y))):=by
 refine zG (F0:=[(0,zI x),(1,zI y)]) func147 rfl rfl rfl (.c (.c .n)) (Mem.nil _) ?_
 refine go 3 [] [7,6,0,1] .n ?_
 intro a w hs;refine zEZ hs rfl rfl rfl ?_
 obtain ⟨W,hW⟩ : ∃ W,W=IntKind.i64.wrap (x+y):=⟨_,rfl⟩
 intro a w hs;rw [← hW] at hs
 rw [IntKind.wrap_i64] at hW
 revert a w hs
 refine goL 7 [] [14,5,0] .n ?_
 intro a w hs;refine zX (b:=(decide (x<0):Bool)==(decide (y<0))) (λc_1=>?_) (λc_1=>?_)
 ·
  rw [c_1] at hs
  replace c_1:=zNX c_1
  revert a w hs
  refine go 6 [] [20,5,0] .n ?_
  refine zZA rfl (λc_2=>?_) (λc_2=>?_)
  ·
   replace c_2:=zFW c_2
   replace c_2:=zNq c_2
   refine go 2 [] [22] .n ?_
   intro a w hs;refine zB (v:=zI (stp (decide (x<0)))) hs (.c rfl .n) call133 (zFn (decide (x<0)) _) rfl ?_
   refine goL 1 [] [4] .n ?_
   intro a w hs;exact fin hs rfl rfl ⟨congrArg (Value.int .i64) (by unfold zC0 zDr;first | omega | (unfold stp;by_cases hx:x<0<;>simp only [hx,decide_true,decide_false,cond_true,cond_false]<;>omega)),rfl⟩
  replace c_2:=zFX c_2
  replace c_2:=zNX c_2
  refine go 2 [] [4] .n ?_
  intro a w hs;exact fin hs rfl rfl ⟨congrArg (Value.int .i64) (by unfold zC0 zDr;first | omega | (unfold stp;by_cases hx:x<0<;>simp only [hx,decide_true,decide_false,cond_true,cond_false]<;>omega)),rfl⟩
 rw [c_1] at hs
 replace c_1:=zNq c_1
 revert a w hs
 refine go 9 [] [4] .n ?_
 intro a w hs;exact fin hs rfl rfl ⟨congrArg (Value.int .i64) (by unfold zC0 zDr;first | omega | (unfold stp;by_cases hx:x<0<;>simp only [hx,decide_true,decide_false,cond_true,cond_false]<;>omega)),rfl⟩
theorem zFk (x y:Int) (hx : -9223372036854775808≤x∧x≤9223372036854775807) (hy : -9223372036854775808≤y∧y≤9223372036854775807) (w0:World):Calls Tryz.prog 91 #[zI x,zI y] w0 (zAh w0 (zI (zBV x y))):=by
 refine zG (F0:=[(0,zI x),(1,zI y)]) func91 rfl rfl rfl (.c (.c .n)) (Mem.nil _) ?_
 refine go 3 [] [7,6,0,1] .n ?_
 intro a w hs;refine zEp hs rfl rfl rfl ?_
 obtain ⟨W,hW⟩ : ∃ W,W=IntKind.i64.wrap (x-y):=⟨_,rfl⟩
 intro a w hs;rw [← hW] at hs
 rw [IntKind.wrap_i64] at hW
 revert a w hs
 refine goL 7 [] [14,5,0] .n ?_
 intro a w hs;refine zX (b:=!((decide (x<0):Bool)==(decide (y<0)))) (λc_1=>?_) (λc_1=>?_)
 ·
  rw [c_1] at hs
  replace c_1:=zFW c_1
  replace c_1:=zNq c_1
  revert a w hs
  refine go 6 [] [20,5,0] .n ?_
  refine zZA rfl (λc_2=>?_) (λc_2=>?_)
  ·
   replace c_2:=zFW c_2
   replace c_2:=zNq c_2
   refine go 2 [] [22] .n ?_
   intro a w hs;refine zB (v:=zI (stp (decide (x<0)))) hs (.c rfl .n) call133 (zFn (decide (x<0)) _) rfl ?_
   refine goL 1 [] [4] .n ?_
   intro a w hs;exact fin hs rfl rfl ⟨congrArg (Value.int .i64) (by unfold zBV zDr;first | omega | (unfold stp;by_cases hx:x<0<;>simp only [hx,decide_true,decide_false,cond_true,cond_false]<;>omega)),rfl⟩
  replace c_2:=zFX c_2
  replace c_2:=zNX c_2
  refine go 2 [] [4] .n ?_
  intro a w hs;exact fin hs rfl rfl ⟨congrArg (Value.int .i64) (by unfold zBV zDr;first | omega | (unfold stp;by_cases hx:x<0<;>simp only [hx,decide_true,decide_false,cond_true,cond_false]<;>omega)),rfl⟩
 rw [c_1] at hs
 replace c_1:=zFX c_1
 replace c_1:=zNX c_1
 revert a w hs
 refine go 9 [] [4] .n ?_
 intro a w hs;exact fin hs rfl rfl ⟨congrArg (Value.int .i64) (by unfold zBV zDr;first | omega | (unfold stp;by_cases hx:x<0<;>simp only [hx,decide_true,decide_false,cond_true,cond_false]<;>omega)),rfl⟩
theorem zLW (x y z:Int) (w0:World):Calls Tryz.prog 104 #[zI x,zI y,zI z] w0 (zAh w0 (zI (min (max x y) z))):=by
 refine zG (F0:=[(0,zI x),(1,zI y),(2,zI z)]) func104 rfl rfl rfl (.c (.c (.c .n))) (Mem.nil _) ?_
 refine go 7 [] [6] .n ?_
 intro a w hs;exact fin hs rfl rfl ⟨rfl,rfl⟩
theorem zHu (x y z:Int) (w0:World):Calls Tryz.prog 65 #[zI x,zI y,zI z] w0 (zAh w0 (zI (zAI x y z))):=by
 refine zG (F0:=[(0,zI x),(1,zI y),(2,zI z)]) func65 rfl rfl rfl (.c (.c (.c .n))) (Mem.nil _) ?_
 refine go 8 [] [13,10,7] .n ?_
 intro a w hs;refine zB (v:=zI (min (max x (min y z)) (max y z))) hs (.c rfl (.c rfl (.c rfl .n))) call104 (zLW x (min y z) (max y z) _) rfl ?_
 refine goL 1 [] [6] .n ?_
 intro a w hs;exact fin hs rfl rfl ⟨rfl,rfl⟩
theorem zNc (x:Int) (w0:World):Calls Tryz.prog 211 #[zI x] w0 (zAh w0 (qI (zAu x))):=by
 refine zG (F0:=[(0,zI x)]) func211 rfl rfl rfl (.c .n) (Mem.nil _) ?_
 refine go 3 [] [4,0] .n ?_
 refine ifG rfl (λc_1=>?_) (λc_1=>?_)
 ·
  refine go 1 [] [5] .n ?_
  intro a w hs;refine zAg hs rfl underlying2 underlying252 rfl ?_
  intro a w hs;refine zFF (X:=BitVec.ofInt 64 x) hs rfl rfl rfl ?_
  refine goL 1 [] [2] .n ?_
  intro a w hs;exact fin hs rfl rfl ⟨congrArg (λz:BitVec 64=>Value.int .u64 ((z.toNat:Nat):Int)) (by unfold zAu;first | rw [if_pos (by assumption)] | rw [if_neg (by assumption)]),rfl⟩
 refine go 1 [] [8] .n ?_
 intro a w hs;refine zAg hs rfl underlying2 underlying252 rfl ?_
 refine goL 1 [] [2] .n ?_
 intro a w hs;exact fin hs rfl rfl ⟨congrArg (λz:BitVec 64=>Value.int .u64 ((z.toNat:Nat):Int)) (by unfold zAu;first | rw [if_pos (by assumption)] | rw [if_neg (by assumption)]),rfl⟩
theorem zJ8 (X Y:BitVec 64) (w0:World):Calls Tryz.prog 157 #[qI X,qI Y] w0 (zAh w0 (.tuple #[qI (mHi X Y),qI (X*Y)])):=by
 refine zG (F0:=[(0,qI X),(1,qI Y)]) func157 rfl rfl rfl (.c (.c .n)) (Mem.nil _) ?_
 refine go 3 [] [14,0,1] .n ?_
 intro a w hs;refine zDE (X:=X) (Y:=4294967295#64) hs rfl rfl rfl (by decide) rfl ?_
 refine goL 2 [] [16,6,0,1] .n ?_
 intro a w hs;refine zAT (X:=X) (m:=32) hs rfl rfl rfl (by decide) rfl ?_
 refine goL 2 [] [18,7,6,0,1] .n ?_
 intro a w hs;refine zDE (X:=Y) (Y:=4294967295#64) hs rfl rfl rfl (by decide) rfl ?_
 refine goL 2 [] [20,8,7,6,0,1] .n ?_
 intro a w hs;refine zAT (X:=Y) (m:=32) hs rfl rfl rfl (by decide) rfl ?_
 refine goL 3 [] [23,22,9,8,7,6,0,1] .n ?_
 intro a w hs;refine zAn (X:=X&&&(4294967295#64)) (Y:=Y&&&(4294967295#64)) hs rfl rfl rfl rfl rfl ?_
 refine goL 3 [] [26,25,10,9,7,6,0,1] .n ?_
 intro a w hs;refine zAn (X:=X>>>32) (Y:=Y&&&(4294967295#64)) hs rfl rfl rfl rfl rfl ?_
 refine goL 1 [] [28,27,9,7,6,0,1] .n ?_
 intro a w hs;refine zAT (X:=(X&&&(4294967295#64))*(Y&&&(4294967295#64))) (m:=32) hs rfl rfl rfl (by decide) rfl ?_
 intro a w hs;refine zAo (X:=(X>>>32)*(Y&&&(4294967295#64))) (Y:=((X&&&(4294967295#64))*(Y&&&(4294967295#64)))>>>32) hs rfl rfl rfl rfl rfl ?_
 refine goL 2 [] [31,11,9,7,6,0,1] .n ?_
 intro a w hs;refine zDE (X:=((X>>>32)*(Y&&&(4294967295#64)))+(((X&&&(4294967295#64))*(Y&&&(4294967295#64)))>>>32)) (Y:=4294967295#64) hs rfl rfl rfl (by decide) rfl ?_
 refine goL 2 [] [33,12,9,7,6,0,1] .n ?_
 intro a w hs;refine zAT (X:=((X>>>32)*(Y&&&(4294967295#64)))+(((X&&&(4294967295#64))*(Y&&&(4294967295#64)))>>>32)) (m:=32) hs rfl rfl rfl (by decide) rfl ?_
 refine goL 4 [] [37,36,35,13,9,7,0,1] .n ?_
 intro a w hs;refine zAn (X:=X&&&(4294967295#64)) (Y:=Y>>>32) hs rfl rfl rfl rfl rfl ?_
 intro a w hs;refine zAo (X:=(((X>>>32)*(Y&&&(4294967295#64)))+(((X&&&(4294967295#64))*(Y&&&(4294967295#64)))>>>32))&&&(4294967295#64)) (Y:=(X&&&(4294967295#64))*(Y>>>32)) hs rfl rfl rfl rfl rfl ?_
 refine goL 3 [] [41,40,12,13,0,1] .n ?_
 intro a w hs;refine zAn (X:=X>>>32) (Y:=Y>>>32) hs rfl rfl rfl rfl rfl ?_
 refine goL 1 [] [43,42,12,0,1] .n ?_
 intro a w hs;refine zAo (X:=(X>>>32)*(Y>>>32)) (Y:=(((X>>>32)*(Y&&&(4294967295#64)))+(((X&&&(4294967295#64))*(Y&&&(4294967295#64)))>>>32))>>>32) hs rfl rfl rfl rfl rfl ?_
 refine goL 1 [] [45,44,0,1] .n ?_
 intro a w hs;refine zAT (X:=((((X>>>32)*(Y&&&(4294967295#64)))+(((X&&&(4294967295#64))*(Y&&&(4294967295#64)))>>>32))&&&(4294967295#64))+((X&&&(4294967295#64))*(Y>>>32))) (m:=32) hs rfl rfl rfl (by decide) rfl ?_
 intro a w hs;refine zAo (X:=((X>>>32)*(Y>>>32))+((((X>>>32)*(Y&&&(4294967295#64)))+(((X&&&(4294967295#64))*(Y&&&(4294967295#64)))>>>32))>>>32)) (Y:=(((((X>>>32)*(Y&&&(4294967295#64)))+(((X&&&(4294967295#64))*(Y&&&(4294967295#64)))>>>32))&&&(4294967295#64))+((X&&&(4294967295#64))*(Y>>>32)))>>>32) hs rfl rfl rfl rfl rfl ?_
 refine goL 3 [] [49,48,4] .n ?_
 intro a w hs;refine zAn (X:=X) (Y:=Y) hs rfl rfl rfl rfl rfl ?_
 refine goL 1 [] [5,4] .n ?_
 intro a w hs;exact zBO hs rfl rfl rfl ⟨congrArg (λz:BitVec 64=>Value.tuple #[qI z,qI (X*Y)]) (zbW X Y),rfl⟩
theorem zRi (X:BitVec 64) (mo mi:Bool) (w0:World):Calls Tryz.prog 212 #[qI X,.bool (mo),.bool (mi)] w0 (zAh w0 (zI (flo X.toNat mo mi))):=by
 refine zG (F0:=[(0,qI X),(1,.bool (mo)),(2,.bool (mi))]) func212 rfl rfl rfl (.c (.c (.c .n))) (Mem.nil _) ?_
 refine go 3 [] [8,0,1] .n ?_
 refine ifG rfl (λc_1=>?_) (λc_1=>?_)
 ·
  refine go 2 [] [10,0] .n ?_
  refine ifG rfl (λc_2=>?_) (λc_2=>?_)
  ·
   refine go 0 [] [] .n ?_
   intro a w hs;refine zB (v:=zI (stp false)) hs (.c rfl .n) call133 (zFn false _) rfl ?_
   refine goL 1 [] [6] .n ?_
   intro a w hs;exact fin hs rfl rfl ⟨congrArg (Value.int .i64) (zUm (by assumption) (by assumption)),rfl⟩
  refine go 1 [] [12] .n ?_
  intro a w hs;refine zAV (X:=X) hs rfl rfl underlying252 underlying2 rfl ?_
  refine goL 1 [] [6] .n ?_
  intro a w hs;exact fin hs rfl rfl ⟨congrArg (Value.int .i64) (zUp (by assumption) (by assumption)),rfl⟩
 refine go 2 [] [15,0] .n ?_
 intro a w hs;refine zX (b:=mo) (λc_3=>?_) (λc_3=>?_)
 ·
  rw [c_3] at hs
  revert a w hs
  refine go 3 [] [18,0] .n ?_
  refine ifG rfl (λc_4=>?_) (λc_4=>?_)
  ·
   refine go 1 [] [19] .n ?_
   intro a w hs;refine zAo (X:=X) (Y:=1#64) hs rfl rfl rfl (by decide) rfl ?_
   refine goL 3 [] [22,0] .n ?_
   refine ifG rfl (λc_5=>?_) (λc_5=>?_)
   ·
    refine go 0 [] [] .n ?_
    intro a w hs;refine zB (v:=zI (stp true)) hs (.c rfl .n) call133 (zFn true _) rfl ?_
    refine goL 1 [] [6] .n ?_
    intro a w hs;exact fin hs rfl rfl ⟨congrArg (Value.int .i64) ((zbZ (by assumption) (by assumption) (by assumption)).1 (by assumption)),rfl⟩
   refine go 1 [] [24] .n ?_
   intro a w hs;refine zFF (X:=X+(1#64)) hs rfl rfl rfl ?_
   intro a w hs;refine zAV (X:=-(X+(1#64))) hs rfl rfl underlying252 underlying2 rfl ?_
   refine goL 1 [] [6] .n ?_
   intro a w hs;exact fin hs rfl rfl ⟨congrArg (Value.int .i64) ((zbZ (by assumption) (by assumption) (by assumption)).2 (by assumption)),rfl⟩
  refine go 2 [] [22,0] .n ?_
  refine ifG rfl (λc_6=>?_) (λc_6=>?_)
  ·
   refine go 0 [] [] .n ?_
   intro a w hs;refine zB (v:=zI (stp true)) hs (.c rfl .n) call133 (zFn true _) rfl ?_
   refine goL 1 [] [6] .n ?_
   intro a w hs;exact fin hs rfl rfl ⟨congrArg (Value.int .i64) ((zVV (by assumption) (.inr (by assumption))).1 (by assumption)),rfl⟩
  refine go 1 [] [24] .n ?_
  intro a w hs;refine zFF (X:=X) hs rfl rfl rfl ?_
  intro a w hs;refine zAV (X:=-X) hs rfl rfl underlying252 underlying2 rfl ?_
  refine goL 1 [] [6] .n ?_
  intro a w hs;exact fin hs rfl rfl ⟨congrArg (Value.int .i64) ((zVV (by assumption) (.inr (by assumption))).2 (by assumption)),rfl⟩
 rw [c_3] at hs
 revert a w hs
 refine go 6 [] [22,0] .n ?_
 refine ifG rfl (λc_7=>?_) (λc_7=>?_)
 ·
  refine go 0 [] [] .n ?_
  intro a w hs;refine zB (v:=zI (stp true)) hs (.c rfl .n) call133 (zFn true _) rfl ?_
  refine goL 1 [] [6] .n ?_
  intro a w hs;exact fin hs rfl rfl ⟨congrArg (Value.int .i64) ((zVV (by assumption) (.inl (by assumption))).1 (by assumption)),rfl⟩
 refine go 1 [] [24] .n ?_
 intro a w hs;refine zFF (X:=X) hs rfl rfl rfl ?_
 intro a w hs;refine zAV (X:=-X) hs rfl rfl underlying252 underlying2 rfl ?_
 refine goL 1 [] [6] .n ?_
 intro a w hs;exact fin hs rfl rfl ⟨congrArg (Value.int .i64) ((zVV (by assumption) (.inl (by assumption))).2 (by assumption)),rfl⟩
theorem zDJ (x y:Int) (hx : -9223372036854775808≤x∧x≤9223372036854775807) (hy : -9223372036854775808≤y∧y≤9223372036854775807) (w0:World):Calls Tryz.prog 159 #[zI x,zI y] w0 (zAh w0 (zI (zA1 x y))):=by
 refine zG (F0:=[(0,zI x),(1,zI y)]) func159 rfl rfl rfl (.c (.c .n)) (Mem.nil _) ?_
 refine go 2 [] [9,0,1] .n ?_
 intro a w hs;refine zB (v:=qI (zAu x)) hs (.c rfl .n) call211 (zNc x _) rfl ?_
 refine goL 1 [] [11,10,0,1] .n ?_
 intro a w hs;refine zB (v:=qI (zAu y)) hs (.c rfl .n) call211 (zNc y _) rfl ?_
 intro a w hs;refine zB (v:=.tuple #[qI (mHi (zAu x) (zAu y)),qI ((zAu x)*(zAu y))]) hs (.c rfl (.c rfl .n)) call157 (zJ8 (zAu x) (zAu y) _) rfl ?_
 refine goL 12 [] [21,7,6,5] .n ?_
 intro a w hs;refine zAT (X:=mHi (zAu x) (zAu y)) (m:=16) hs rfl rfl rfl (by decide) rfl ?_
 refine goL 1 [] [23,7,6,5] .n ?_
 refine ifG rfl (λc_1=>?_) (λc_1=>?_)
 ·
  refine go 1 [] [24] .n ?_
  intro a w hs;refine zB (v:=zI (stp (!((decide (x<0):Bool)==(decide (y<0)))))) hs (.c rfl .n) call133 (zFn (!((decide (x<0):Bool)==(decide (y<0)))) _) rfl ?_
  refine goL 1 [] [4] .n ?_
  intro a w hs;exact fin hs rfl rfl ⟨congrArg (Value.int .i64) (zXz hx hy (by assumption)),rfl⟩
 refine go 1 [] [26,7,6] .n ?_
 intro a w hs;refine zDF (X:=mHi (zAu x) (zAu y)) (m:=48) hs rfl rfl rfl (by decide) rfl ?_
 refine goL 1 [] [28,27,7,6] .n ?_
 intro a w hs;refine zAT (X:=(zAu x)*(zAu y)) (m:=16) hs rfl rfl rfl (by decide) rfl ?_
 intro a w hs;refine zGS (X:=(mHi (zAu x) (zAu y))<<<48) (Y:=((zAu x)*(zAu y))>>>16) hs rfl rfl rfl rfl rfl ?_
 refine goL 1 [] [31,30,7] .n ?_
 intro a w hs;refine zDF (X:=(zAu x)*(zAu y)) (m:=48) hs rfl rfl rfl (by decide) rfl ?_
 refine goL 2 [] [34,33,30] .n ?_
 intro a w hs;refine zB (v:=zI (flo (((mHi (zAu x) (zAu y))<<<48)|||(((zAu x)*(zAu y))>>>16)).toNat (!(((((((zAu x)*(zAu y))<<<48).toNat:Nat):Int):Int)==0)) (!((decide (x<0):Bool)==(decide (y<0)))))) hs (.c rfl (.c rfl (.c rfl .n))) call212 (zRi (((mHi (zAu x) (zAu y))<<<48)|||(((zAu x)*(zAu y))>>>16)) (!(((((((zAu x)*(zAu y))<<<48).toNat:Nat):Int):Int)==0)) (!((decide (x<0):Bool)==(decide (y<0)))) _) rfl ?_
 refine goL 1 [] [4] .n ?_
 intro a w hs;exact fin hs rfl rfl ⟨congrArg (Value.int .i64) (zSn hx hy (not_not_intro (by assumption))),rfl⟩
theorem zbe (X:BitVec 64) (w0:World):Calls Tryz.prog 210 #[qI X] w0 (zAh w0 (zI (64-((zAv X.toNat:Nat):Int)))):=by
 have hxl:=zDH (k:=64) X.isLt
 refine zG (F0:=[(0,qI X)]) func210 rfl rfl rfl (.c .n) (Mem.nil _) ?_
 refine go 2 [] [3] .n ?_
 intro a w hs;refine zB (v:=nI (zAv X.toNat)) hs (.c rfl .n) call248 (zOD X _) rfl ?_
 refine goL 2 [] [2] .n ⟨(by omega),?_⟩
 intro a w hs;exact fin hs rfl rfl ⟨rfl,rfl⟩
theorem zNe (X Z Y:BitVec 64) (h:X.toNat<Y.toNat) (w0:World):Calls Tryz.prog 158 #[qI X,qI Z,qI Y] w0 (zAh w0 (.tuple #[qI (dQ X Z Y),qI (dR X Z Y)])):=by
 refine zG (F0:=[(0,qI X),(1,qI Z),(2,qI Y)]) func158 rfl rfl rfl (.c (.c (.c .n))) (Mem.nil _) ?_
 refine go 4 [] [20,0,1,2] .n ?_
 refine ifG rfl (λc_1=>?_) (λc_1=>?_)
 ·
  exfalso;omega
 refine go 3 [] [24,0,1,2] .n ?_
 refine ifG rfl (λc_2=>?_) (λc_2=>?_)
 ·
  exfalso;omega
 refine go 2 [] [27,0,1,2] .n ?_
 refine ifG rfl (λc_3=>?_) (λc_3=>?_)
 ·
  refine go 0 [] [1,2] .n ?_
  intro a w hs
  refine zO [.p [] [],.p [] [],.v [1,0] (qI (Z/Y)),.p [] [],.p [] [],.v [4,3] (qI (Z%Y)),.p [2] [],.p [5] []] [6,7] hs .n .n (by kernel_rfl) ⟨λ_ _ _ _ hm hs K=>zGn (X:=Z) (Y:=Y) hs rfl rfl rfl rfl (zUv (by omega)) rfl (vk K),λ_ _ _ _ hm hs K=>zO6 (X:=Z) (Y:=Y) hs rfl rfl rfl rfl (zUv (by omega)) rfl (vk K),⟨rfl,by kernel_rfl,λ_=>rfl,rfl,rfl,trivial⟩,λ_=>rfl,?_⟩
  refine goE 0 [] [7,6] .n ?_
  intro a w hs;exact zBO hs rfl rfl rfl ⟨congrArg (λz:BitVec 64×BitVec 64=>Value.tuple #[qI z.1,qI z.2]) (zU7 (by omega) h),rfl⟩
 refine go 1 [] [34,0,1,2] .n ?_
 intro a w hs;refine zB (v:=zI (64-((zAv Y.toNat:Nat):Int))) hs (.c rfl .n) call210 (zbe Y _) rfl ?_
 intro a w hs;refine zAg hs rfl underlying3 underlying232 rfl ?_
 obtain ⟨K,hK⟩ : ∃ K:BitVec 64,K=BitVec.ofInt 64 (64-((zAv Y.toNat:Nat):Int)):=⟨_,rfl⟩
 intro a w hs;rw [← hK] at hs
 have hk:=zcN hK
 revert a w hs
 refine goL 3 [] [38,37,8,0,1] .n ?_
 intro a w hs;refine zDF (X:=Y) (m:=(K).toNat) hs rfl rfl rfl rfl rfl ?_
 obtain ⟨V,hV⟩ : ∃ V:BitVec 64,V=Y<<<((K).toNat):=⟨_,rfl⟩
 intro a w hs;rw [← hV] at hs
 revert a w hs
 refine goL 2 [] [40,2,8,0,1] .n ?_
 intro a w hs;refine zAT (X:=V) (m:=32) hs rfl rfl rfl (by decide) rfl ?_
 obtain ⟨A1,hA1⟩ : ∃ A1:BitVec 64,A1=V>>>32:=⟨_,rfl⟩
 intro a w hs;rw [← hA1] at hs
 revert a w hs
 refine goL 2 [] [42,9,2,8,0,1] .n ?_
 intro a w hs;refine zDE (X:=V) (Y:=4294967295#64) hs rfl rfl rfl (by decide) rfl ?_
 obtain ⟨A0,hA0⟩ : ∃ A0:BitVec 64,A0=V&&&(4294967295#64):=⟨_,rfl⟩
 intro a w hs;rw [← hA0] at hs
 revert a w hs
 refine goL 3 [] [45,44,10,9,2,8,1] .n ?_
 intro a w hs;refine zDF (X:=X) (m:=(K).toNat) hs rfl rfl rfl rfl rfl ?_
 refine goL 2 [] [48,47,46,10,9,2,8,1] .n ?_
 intro a w hs;refine zBy (X:=64#64) (Y:=K) hs rfl (by decide) rfl rfl rfl ?_
 intro a w hs;refine zAT (X:=Z) (m:=((64#64)-K).toNat) hs rfl rfl rfl rfl rfl ?_
 intro a w hs;refine zGS (X:=X<<<((K).toNat)) (Y:=Z>>>(((64#64)-K).toNat)) hs rfl rfl rfl rfl rfl ?_
 obtain ⟨U,hU⟩ : ∃ U:BitVec 64,U=(X<<<((K).toNat))|||(Z>>>(((64#64)-K).toNat)):=⟨_,rfl⟩
 intro a w hs;rw [← hU] at hs
 revert a w hs
 refine goL 3 [] [53,52,11,10,9,2,8] .n ?_
 intro a w hs;refine zDF (X:=Z) (m:=(K).toNat) hs rfl rfl rfl rfl rfl ?_
 obtain ⟨W,hW⟩ : ∃ W:BitVec 64,W=Z<<<((K).toNat):=⟨_,rfl⟩
 intro a w hs;rw [← hW] at hs
 have hp:=zYY h hk hV hU hW
 rw [← hA1,← hA0] at hp
 have h1:=hp.2.2.h1
 revert a w hs
 refine goL 2 [] [55,12,11,10,9,2,8] .n ?_
 intro a w hs;refine zAT (X:=W) (m:=32) hs rfl rfl rfl (by decide) rfl ?_
 refine goL 2 [] [57,13,11,10,9,2,8] .n ?_
 intro a w hs;refine zDE (X:=W) (Y:=4294967295#64) hs rfl rfl rfl (by decide) rfl ?_
 refine goL 3 [] [60,59,14,13,11,10,9,2,8] .n ?_
 intro a w hs;refine zGn (X:=U) (Y:=A1) hs rfl rfl rfl rfl (zUv (by omega)) rfl ?_
 refine goL 4 [] [64,63,62,15,14,13,11,10,9,2,8] .n ?_
 intro a w hs;refine zAn (X:=U/A1) (Y:=A1) hs rfl rfl rfl rfl rfl ?_
 intro a w hs;refine zBy (X:=U) (Y:=(U/A1)*A1) hs rfl rfl rfl rfl rfl ?_
 refine zPd 4 1 [] [16,15,14,13,11,10,9,2,8] .n ?_
 intro a w hs;refine zZx (λa w=>∃ Q1:BitVec 64,St 135 [(2,qI V),(8,qI K),(9,qI A1),(10,qI A0),(11,qI U),(13,qI (W>>>32)),(14,qI (W&&&(4294967295#64))),(15,qI Q1)] w0 [] [] a w∧Q1.toNat=(U.toNat*4294967296+(W>>>32).toNat)/V.toNat) ?_ ?_
 ·
  revert a w hs
  refine go 0 [] [16,15,14,13,11,10,9,2,8] .n ?_
  intro a w hs;refine zCC (λmm_ a w=>∃ q:BitVec 64,∃ r:BitVec 64,mm_=q.toNat∧St 135 [(2,qI V),(8,qI K),(9,qI A1),(10,qI A0),(11,qI U),(13,qI (W>>>32)),(14,qI (W&&&(4294967295#64))),(15,qI q),(16,qI r)] w0 [] [] a w∧q.toNat*A1.toNat+r.toNat=U.toNat∧(U.toNat*4294967296+(W>>>32).toNat)/V.toNat≤q.toNat∧r.toNat<4294967296) ⟨(U/A1),(U-U/A1*A1),rfl,hs.sub (.c rfl (.c rfl (.c rfl (.c rfl (.c rfl (.c rfl (.c rfl (.c rfl (.c rfl .n))))))))),hp.2.2.first.1,hp.2.2.first.2.1,hp.2.2.first.2.2⟩ ?_
  clear hs w a;rintro mm_ a w ⟨q,r,rfl,hs,hI1_0,hI1_1,hI1_2⟩
  revert a w hs
  refine go 3 [] [69,2,8,9,10,11,13,14,15,16] .n ?_
  intro a w hs;refine zX (b:=decide (4294967296≤(((q).toNat:Nat):Int))) (λc_5=>?_) (λc_5=>?_)
  ·
   rw [c_5] at hs
   replace c_5:=of_decide_eq_true c_5
   revert a w hs
   refine go 11 [] [79,2,8,9,10,11,13,14,16] .n ?_
   intro a w hs;refine zBy (X:=q) (Y:=1#64) hs rfl rfl rfl (by decide) rfl ?_
   refine goL 3 [] [82,81,15,2,8,9,10,11,13,14] .n ?_
   intro a w hs;refine zAo (X:=r) (Y:=A1) hs rfl rfl rfl rfl rfl ?_
   refine goL 3 [] [85,16,15,2,8,9,10,11,13,14] .n ?_
   refine ifG rfl (λc_6=>?_) (λc_6=>?_)
   ·
    refine go 0 [] [15,2,8,9,10,11,13,14] .n ?_
    have hm2:=hp.2.2.more hI1_0 hI1_1 hI1_2 (by first | (left;omega) | (right;constructor<;>omega))
    intro a w hs;exact ⟨(q-(1#64)),hs.sub (.c rfl (.c rfl (.c rfl (.c rfl (.c rfl (.c rfl (.c rfl (.c rfl .n)))))))),hp.2.2.brk hm2.1 hm2.2.1 (by omega)⟩
   refine go 0 [] [16,15,2,8,9,10,11,13,14] .n ?_
   have hm2:=hp.2.2.more hI1_0 hI1_1 hI1_2 (by first | (left;omega) | (right;constructor<;>omega))
   intro a w hs;refine ⟨_,?_,(q-1#64),(r+A1),rfl,hs.sub (.c rfl (.c rfl (.c rfl (.c rfl (.c rfl (.c rfl (.c rfl (.c rfl (.c rfl .n))))))))),hm2.1,hm2.2.1,by omega⟩
   omega
  rw [c_5] at hs
  replace c_5:=of_decide_eq_false c_5
  revert a w hs
  refine go 2 [] [71,70,69,2,8,9,10,11,13,14,15,16] .n ?_
  intro a w hs;refine zC hs rfl rfl rfl ?_
  refine zAn (X:=q) (Y:=A0) hs rfl rfl rfl rfl rfl ?_
  refine goL 1 [] [73,72,69,2,8,9,10,11,13,14,15,16] .n ?_
  intro a w hs;refine zC hs rfl rfl rfl ?_
  refine zAn (X:=4294967296#64) (Y:=r) hs rfl (by decide) rfl rfl rfl ?_
  refine goL 1 [] [75,74,72,69,2,8,9,10,11,13,14,15,16] .n ?_
  intro a w hs;refine zC hs rfl rfl rfl ?_
  refine zAo (X:=(4294967296#64)*r) (Y:=W>>>32) hs rfl rfl rfl rfl rfl ?_
  refine goL 2 [] [78,2,8,9,10,11,13,14,15,16] .n ?_
  refine ifG rfl (λc_7=>?_) (λc_7=>?_)
  ·
   refine go 1 [] [79,2,8,9,10,11,13,14,16] .n ?_
   intro a w hs;refine zBy (X:=q) (Y:=1#64) hs rfl rfl rfl (by decide) rfl ?_
   refine goL 3 [] [82,81,15,2,8,9,10,11,13,14] .n ?_
   intro a w hs;refine zAo (X:=r) (Y:=A1) hs rfl rfl rfl rfl rfl ?_
   refine goL 3 [] [85,16,15,2,8,9,10,11,13,14] .n ?_
   refine ifG rfl (λc_8=>?_) (λc_8=>?_)
   ·
    refine go 0 [] [15,2,8,9,10,11,13,14] .n ?_
    have hm2:=hp.2.2.more hI1_0 hI1_1 hI1_2 (by first | (left;omega) | (right;constructor<;>omega))
    intro a w hs;exact ⟨(q-(1#64)),hs.sub (.c rfl (.c rfl (.c rfl (.c rfl (.c rfl (.c rfl (.c rfl (.c rfl .n)))))))),hp.2.2.brk hm2.1 hm2.2.1 (by omega)⟩
   refine go 0 [] [16,15,2,8,9,10,11,13,14] .n ?_
   have hm2:=hp.2.2.more hI1_0 hI1_1 hI1_2 (by first | (left;omega) | (right;constructor<;>omega))
   intro a w hs;refine ⟨_,?_,(q-1#64),(r+A1),rfl,hs.sub (.c rfl (.c rfl (.c rfl (.c rfl (.c rfl (.c rfl (.c rfl (.c rfl (.c rfl .n))))))))),hm2.1,hm2.2.1,by omega⟩
   omega
  refine go 0 [] [2,8,9,10,11,13,14,15] .n ?_
  intro a w hs;exact ⟨(q),hs.sub (.c rfl (.c rfl (.c rfl (.c rfl (.c rfl (.c rfl (.c rfl (.c rfl .n)))))))),hp.2.2.done hI1_0 hI1_1 hI1_2 (by omega) (by omega)⟩
 clear hs w a;rintro a w ⟨Q1,hs,hJ9⟩
 have hj1:=hJ9
 revert a w hs
 refine go 1 [] [86,2,8,9,10,13,14,15] .n ?_
 intro a w hs;refine zAn (X:=U) (Y:=4294967296#64) hs rfl rfl rfl (by decide) rfl ?_
 refine goL 1 [] [88,87,2,8,9,10,14,15] .n ?_
 intro a w hs;refine zAo (X:=U*(4294967296#64)) (Y:=W>>>32) hs rfl rfl rfl rfl rfl ?_
 refine goL 2 [] [91,90,89,2,8,9,10,14,15] .n ?_
 intro a w hs;refine zAn (X:=Q1) (Y:=V) hs rfl rfl rfl rfl rfl ?_
 intro a w hs;refine zBy (X:=(U*(4294967296#64))+(W>>>32)) (Y:=Q1*V) hs rfl rfl rfl rfl rfl ?_
 obtain ⟨R,hR⟩ : ∃ R:BitVec 64,R=((U*(4294967296#64))+(W>>>32))-(Q1*V):=⟨_,rfl⟩
 intro a w hs;rw [← hR] at hs
 have hp2:=hp.2.2.next hj1 hR (show (W&&&4294967295#64).toNat<4294967296 by rw [zOp];omega)
 revert a w hs
 refine goL 3 [] [95,94,17,2,8,9,10,14,15] .n ?_
 intro a w hs;refine zGn (X:=R) (Y:=A1) hs rfl rfl rfl rfl (zUv (by omega)) rfl ?_
 refine goL 4 [] [99,98,97,18,17,2,8,9,10,14,15] .n ?_
 intro a w hs;refine zAn (X:=R/A1) (Y:=A1) hs rfl rfl rfl rfl rfl ?_
 intro a w hs;refine zBy (X:=R) (Y:=(R/A1)*A1) hs rfl rfl rfl rfl rfl ?_
 refine zPd 4 1 [] [16,18,17,2,8,9,10,14,15] .n ?_
 intro a w hs;refine zZx (λa w=>∃ Q0:BitVec 64,St 135 [(2,qI V),(8,qI K),(9,qI A1),(10,qI A0),(14,qI (W&&&(4294967295#64))),(15,qI Q1),(17,qI R),(18,qI Q0)] w0 [] [] a w∧Q0.toNat=(R.toNat*4294967296+(W&&&4294967295#64).toNat)/V.toNat) ?_ ?_
 ·
  revert a w hs
  refine go 0 [] [16,18,17,2,8,9,10,14,15] .n ?_
  intro a w hs;refine zCC (λmm_ a w=>∃ q:BitVec 64,∃ r:BitVec 64,mm_=q.toNat∧St 135 [(2,qI V),(8,qI K),(9,qI A1),(10,qI A0),(14,qI (W&&&(4294967295#64))),(15,qI Q1),(16,qI r),(17,qI R),(18,qI q)] w0 [] [] a w∧q.toNat*A1.toNat+r.toNat=R.toNat∧(R.toNat*4294967296+(W&&&4294967295#64).toNat)/V.toNat≤q.toNat∧r.toNat<4294967296) ⟨(R/A1),(R-R/A1*A1),rfl,hs.sub (.c rfl (.c rfl (.c rfl (.c rfl (.c rfl (.c rfl (.c rfl (.c rfl (.c rfl .n))))))))),hp2.first.1,hp2.first.2.1,hp2.first.2.2⟩ ?_
  clear hs w a;rintro mm_ a w ⟨q,r,rfl,hs,hI2_0,hI2_1,hI2_2⟩
  revert a w hs
  refine go 3 [] [104,2,8,9,10,14,15,16,17,18] .n ?_
  intro a w hs;refine zX (b:=decide (4294967296≤(((q).toNat:Nat):Int))) (λc_10=>?_) (λc_10=>?_)
  ·
   rw [c_10] at hs
   replace c_10:=of_decide_eq_true c_10
   revert a w hs
   refine go 11 [] [114,2,8,9,10,14,15,16,17] .n ?_
   intro a w hs;refine zBy (X:=q) (Y:=1#64) hs rfl rfl rfl (by decide) rfl ?_
   refine goL 3 [] [117,116,18,2,8,9,10,14,15,17] .n ?_
   intro a w hs;refine zAo (X:=r) (Y:=A1) hs rfl rfl rfl rfl rfl ?_
   refine goL 3 [] [120,16,18,2,8,9,10,14,15,17] .n ?_
   refine ifG rfl (λc_11=>?_) (λc_11=>?_)
   ·
    refine go 0 [] [18,2,8,9,10,14,15,17] .n ?_
    have hm2:=hp2.more hI2_0 hI2_1 hI2_2 (by first | (left;omega) | (right;constructor<;>omega))
    intro a w hs;exact ⟨(q-(1#64)),hs.sub (.c rfl (.c rfl (.c rfl (.c rfl (.c rfl (.c rfl (.c rfl (.c rfl .n)))))))),hp2.brk hm2.1 hm2.2.1 (by omega)⟩
   refine go 0 [] [16,18,2,8,9,10,14,15,17] .n ?_
   have hm2:=hp2.more hI2_0 hI2_1 hI2_2 (by first | (left;omega) | (right;constructor<;>omega))
   intro a w hs;refine ⟨_,?_,(q-1#64),(r+A1),rfl,hs.sub (.c rfl (.c rfl (.c rfl (.c rfl (.c rfl (.c rfl (.c rfl (.c rfl (.c rfl .n))))))))),hm2.1,hm2.2.1,by omega⟩
   omega
  rw [c_10] at hs
  replace c_10:=of_decide_eq_false c_10
  revert a w hs
  refine go 2 [] [106,105,104,2,8,9,10,14,15,16,17,18] .n ?_
  intro a w hs;refine zC hs rfl rfl rfl ?_
  refine zAn (X:=q) (Y:=A0) hs rfl rfl rfl rfl rfl ?_
  refine goL 1 [] [108,107,104,2,8,9,10,14,15,16,17,18] .n ?_
  intro a w hs;refine zC hs rfl rfl rfl ?_
  refine zAn (X:=4294967296#64) (Y:=r) hs rfl (by decide) rfl rfl rfl ?_
  refine goL 1 [] [110,109,107,104,2,8,9,10,14,15,16,17,18] .n ?_
  intro a w hs;refine zC hs rfl rfl rfl ?_
  refine zAo (X:=(4294967296#64)*r) (Y:=W&&&(4294967295#64)) hs rfl rfl rfl rfl rfl ?_
  refine goL 2 [] [113,2,8,9,10,14,15,16,17,18] .n ?_
  refine ifG rfl (λc_12=>?_) (λc_12=>?_)
  ·
   refine go 1 [] [114,2,8,9,10,14,15,16,17] .n ?_
   intro a w hs;refine zBy (X:=q) (Y:=1#64) hs rfl rfl rfl (by decide) rfl ?_
   refine goL 3 [] [117,116,18,2,8,9,10,14,15,17] .n ?_
   intro a w hs;refine zAo (X:=r) (Y:=A1) hs rfl rfl rfl rfl rfl ?_
   refine goL 3 [] [120,16,18,2,8,9,10,14,15,17] .n ?_
   refine ifG rfl (λc_13=>?_) (λc_13=>?_)
   ·
    refine go 0 [] [18,2,8,9,10,14,15,17] .n ?_
    have hm2:=hp2.more hI2_0 hI2_1 hI2_2 (by first | (left;omega) | (right;constructor<;>omega))
    intro a w hs;exact ⟨(q-(1#64)),hs.sub (.c rfl (.c rfl (.c rfl (.c rfl (.c rfl (.c rfl (.c rfl (.c rfl .n)))))))),hp2.brk hm2.1 hm2.2.1 (by omega)⟩
   refine go 0 [] [16,18,2,8,9,10,14,15,17] .n ?_
   have hm2:=hp2.more hI2_0 hI2_1 hI2_2 (by first | (left;omega) | (right;constructor<;>omega))
   intro a w hs;refine ⟨_,?_,(q-1#64),(r+A1),rfl,hs.sub (.c rfl (.c rfl (.c rfl (.c rfl (.c rfl (.c rfl (.c rfl (.c rfl (.c rfl .n))))))))),hm2.1,hm2.2.1,by omega⟩
   omega
  refine go 0 [] [2,8,9,10,14,15,17,18] .n ?_
  intro a w hs;exact ⟨(q),hs.sub (.c rfl (.c rfl (.c rfl (.c rfl (.c rfl (.c rfl (.c rfl (.c rfl .n)))))))),hp2.done hI2_0 hI2_1 hI2_2 (by omega) (by omega)⟩
 clear hs w a;rintro a w ⟨Q0,hs,hJ14⟩
 have hj2:=hJ14
 revert a w hs
 refine go 1 [] [121,2,8,14,17,18] .n ?_
 intro a w hs;refine zAn (X:=Q1) (Y:=4294967296#64) hs rfl rfl rfl (by decide) rfl ?_
 refine goL 1 [] [123,122,2,8,14,17,18] .n ?_
 intro a w hs;refine zAo (X:=Q1*(4294967296#64)) (Y:=Q0) hs rfl rfl rfl rfl rfl ?_
 refine goL 1 [] [125,124,2,8,14,18] .n ?_
 intro a w hs;refine zAn (X:=R) (Y:=4294967296#64) hs rfl rfl rfl (by decide) rfl ?_
 refine goL 1 [] [127,126,124,2,8,18] .n ?_
 intro a w hs;refine zAo (X:=R*(4294967296#64)) (Y:=W&&&(4294967295#64)) hs rfl rfl rfl rfl rfl ?_
 refine goL 2 [] [130,129,128,124,8] .n ?_
 intro a w hs;refine zAn (X:=Q0) (Y:=V) hs rfl rfl rfl rfl rfl ?_
 intro a w hs;refine zBy (X:=(R*(4294967296#64))+(W&&&(4294967295#64))) (Y:=Q0*V) hs rfl rfl rfl rfl rfl ?_
 refine goL 1 [] [133,132,124] .n ?_
 intro a w hs;refine zAT (X:=((R*(4294967296#64))+(W&&&(4294967295#64)))-(Q0*V)) (m:=(K).toNat) hs rfl rfl rfl rfl rfl ?_
 refine goL 2 [] [7,6] .n ?_
 obtain ⟨e1,e2⟩:=zYr h hp.1 hp.2.1 hp.2.2 hj1 hR hj2
 intro a w hs;exact zBO hs rfl rfl rfl ⟨by rw [e1,e2],rfl⟩
theorem zLb (x y:Int) (w0:World):Calls Tryz.prog 259 #[zI x,zI y] w0 (zAh w0 (nI (zBP x y))):=by
 refine zG (F0:=[(0,zI x),(1,zI y)]) func259 rfl rfl rfl (.c (.c .n)) (Mem.nil _) ?_
 refine go 4 [] [7,0,1] .n ?_
 intro a w hs;refine zX (b:=decide (y<1)) (λc_1=>?_) (λc_1=>?_)
 ·
  rw [c_1] at hs
  replace c_1:=of_decide_eq_true c_1
  revert a w hs
  refine go 12 [] [4] .n ?_
  intro a w hs;exact fin hs rfl rfl ⟨congrArg (λn:Nat=>Value.int .i64 (n:Int)) (zJi (by omega)).symm,rfl⟩
 rw [c_1] at hs
 replace c_1:=of_decide_eq_false c_1
 revert a w hs
 refine go 4 [] [11,0,1] .n ?_
 intro a w hs;refine zX (b:=decide (4611686018427387904<y)) (λc_2=>?_) (λc_2=>?_)
 ·
  rw [c_2] at hs
  replace c_2:=of_decide_eq_true c_2
  revert a w hs
  refine go 8 [] [4] .n ?_
  intro a w hs;exact fin hs rfl rfl ⟨congrArg (λn:Nat=>Value.int .i64 (n:Int)) (zJi (by omega)).symm,rfl⟩
 rw [c_2] at hs
 replace c_2:=of_decide_eq_false c_2
 revert a w hs
 refine go 3 [] [14,13,12,11] .n ?_
 intro a w hs;refine zC hs rfl rfl rfl ?_
 refine zB (v:=zI (min (max x 0) y)) hs (.c rfl (.c rfl (.c rfl .n))) call104 (zLW x 0 y _) rfl ?_
 refine goL 2 [] [17] .n ?_
 refine ifG rfl (λc_3=>?_) (λc_3=>?_)
 ·
  refine go 1 [] [4] .n ?_
  intro a w hs;exact fin hs rfl rfl ⟨congrArg (λn:Nat=>Value.int .i64 (n:Int)) (zJi (by omega)).symm,rfl⟩
 refine go 1 [] [4] .n ?_
 intro a w hs;exact fin hs rfl rfl ⟨congrArg (λn:Nat=>Value.int .i64 (n:Int)) (zRe (by assumption) (by assumption) (by assumption)).symm,rfl⟩
theorem zJq (X:BitVec 64) (x y:Int) (h1:1≤y) (h2:y≤4611686018427387904) (h3:0≤x) (h4:x≤y) (w0:World):Calls Tryz.prog 260 #[qI X,zI x,zI y] w0 (zAh w0 (.tuple #[qI (pQ X x y),.bool (pM X x y)])):=by
 have hlt:=zQr (X:=X) h1 h2 h3 h4
 refine zG (F0:=[(0,qI X),(1,zI x),(2,zI y)]) func260 rfl rfl rfl (.c (.c (.c .n))) (Mem.nil _) ?_
 refine go 4 [] [14,13,2] .n ?_
 intro a w hs;refine zAg hs rfl underlying2 underlying252 rfl ?_
 intro a w hs;refine zB (v:=.tuple #[qI (mHi X (BitVec.ofInt 64 x)),qI (X*(BitVec.ofInt 64 x))]) hs (.c rfl (.c rfl .n)) call157 (zJ8 X (BitVec.ofInt 64 x) _) rfl ?_
 refine goL 8 [] [22,21,20] .n ?_
 intro a w hs;refine zAg hs rfl underlying2 underlying252 rfl ?_
 intro a w hs;refine zB (v:=.tuple #[qI (dQ (mHi X (BitVec.ofInt 64 x)) (X*(BitVec.ofInt 64 x)) (BitVec.ofInt 64 y)),qI (dR (mHi X (BitVec.ofInt 64 x)) (X*(BitVec.ofInt 64 x)) (BitVec.ofInt 64 y))]) hs (.c rfl (.c rfl (.c rfl .n))) call158 (zNe (mHi X (BitVec.ofInt 64 x)) (X*(BitVec.ofInt 64 x)) (BitVec.ofInt 64 y) (by omega) _) rfl ?_
 refine goL 10 [] [7,6] .n ?_
 obtain ⟨e1,e2⟩:=zZf (X:=X) h1 h2 h3 h4
 intro a w hs;exact zBO hs rfl rfl rfl ⟨by rw [e1,e2],rfl⟩
theorem zN1 (x y n d:Int) (hx : -9223372036854775808≤x∧x≤9223372036854775807) (hy : -9223372036854775808≤y∧y≤9223372036854775807) (w0:World):Calls Tryz.prog 208 #[zI x,zI y,zI n,zI d] w0 (zAh w0 (.tuple #[zI (bif zBP n d==0 then zCY x y n d else 0),nI (zBP n d)])):=by
 refine zG (F0:=[(0,zI x),(1,zI y),(2,zI n),(3,zI d)]) func208 rfl rfl rfl (.c (.c (.c (.c .n)))) (Mem.nil _) ?_
 refine go 4 [] [16,15,0,1,2,3] .n ?_
 intro a w hs;refine zB (v:=nI (zBP n d)) hs (.c rfl (.c rfl .n)) call259 (zLb n d _) rfl ?_
 refine goL 3 [] [19,10,0,1,2,3] .n ?_
 refine ifG rfl (λc_1=>?_) (λc_1=>?_)
 ·
  have hbad:=zIH (by assumption)
  refine go 3 [] [9,8] .n ?_
  intro a w hs;exact zBO hs rfl rfl rfl ⟨zRv hbad _,rfl⟩
 have hc0:=zCt (by assumption)
 have hc1:=zE3 hc0
 refine go 3 [] [23,0,1,2,3] .n ?_
 refine ifG rfl (λc_2=>?_) (λc_2=>?_)
 ·
  refine go 2 [] [26,25,0,2,3] .n ?_
  intro a w hs;refine zEp hs rfl rfl rfl ?_
  intro a w hs;refine zAg hs rfl underlying2 underlying252 rfl ?_
  refine goL 2 [] [30,29,28,0] .n ?_
  intro a w hs;refine zB (v:=.tuple #[qI (pQ (BitVec.ofInt 64 (IntKind.i64.wrap (y-x))) n d),.bool (pM (BitVec.ofInt 64 (IntKind.i64.wrap (y-x))) n d)]) hs (.c rfl (.c rfl (.c rfl .n))) call260 (zJq (BitVec.ofInt 64 (IntKind.i64.wrap (y-x))) n d (by omega) (by omega) (by omega) (by omega) _) rfl ?_
  refine goL 7 [] [35,34] .n ?_
  intro a w hs;refine zAV (X:=pQ (BitVec.ofInt 64 (IntKind.i64.wrap (y-x))) n d) hs rfl rfl underlying252 underlying2 rfl ?_
  intro a w hs;refine zEZ hs rfl rfl rfl ?_
  refine goL 2 [] [9,8] .n ?_
  intro a w hs;exact zBO hs rfl rfl rfl ⟨zFi hc0 (zXi hx hy (by assumption) hc0),rfl⟩
 refine go 2 [] [40,39,0,2,3] .n ?_
 intro a w hs;refine zEp hs rfl rfl rfl ?_
 intro a w hs;refine zAg hs rfl underlying2 underlying252 rfl ?_
 refine goL 2 [] [44,43,42,0] .n ?_
 intro a w hs;refine zB (v:=.tuple #[qI (pQ (BitVec.ofInt 64 (IntKind.i64.wrap (x-y))) n d),.bool (pM (BitVec.ofInt 64 (IntKind.i64.wrap (x-y))) n d)]) hs (.c rfl (.c rfl (.c rfl .n))) call260 (zJq (BitVec.ofInt 64 (IntKind.i64.wrap (x-y))) n d (by omega) (by omega) (by omega) (by omega) _) rfl ?_
 refine goL 6 [] [48,13,0] .n ?_
 refine ifG rfl (λc_3=>?_) (λc_3=>?_)
 ·
  refine go 1 [] [49,0] .n ?_
  intro a w hs;refine zAo (X:=pQ (BitVec.ofInt 64 (IntKind.i64.wrap (x-y))) n d) (Y:=1#64) hs rfl rfl rfl (by decide) rfl ?_
  refine goL 3 [] [52,51] .n ?_
  intro a w hs;refine zAV (X:=(pQ (BitVec.ofInt 64 (IntKind.i64.wrap (x-y))) n d)+(1#64)) hs rfl rfl underlying252 underlying2 rfl ?_
  intro a w hs;refine zEp hs rfl rfl rfl ?_
  refine goL 2 [] [9,8] .n ?_
  intro a w hs;exact zBO hs rfl rfl rfl ⟨zFi hc0 ((zLC hx hy (by assumption) hc0).1 (by assumption)),rfl⟩
 refine go 2 [] [52,51] .n ?_
 intro a w hs;refine zAV (X:=pQ (BitVec.ofInt 64 (IntKind.i64.wrap (x-y))) n d) hs rfl rfl underlying252 underlying2 rfl ?_
 intro a w hs;refine zEp hs rfl rfl rfl ?_
 refine goL 2 [] [9,8] .n ?_
 intro a w hs;exact zBO hs rfl rfl rfl ⟨zFi hc0 ((zLC hx hy (by assumption) hc0).2 (by assumption)),rfl⟩
theorem zOB (n d:Int) (w0:World):Calls Tryz.prog 335 #[zI n,zI d] w0 (zAh w0 (.tuple #[zI (bif zBP n d==0 then zBr n d else 0),nI (zBP n d)])):=by
 refine zG (F0:=[(0,zI n),(1,zI d)]) func335 rfl rfl rfl (.c (.c .n)) (Mem.nil _) ?_
 refine go 4 [] [10,9,0,1] .n ?_
 intro a w hs;refine zB (v:=nI (zBP n d)) hs (.c rfl (.c rfl .n)) call259 (zLb n d _) rfl ?_
 refine goL 3 [] [13,6,0,1] .n ?_
 refine ifG rfl (λc_1=>?_) (λc_1=>?_)
 ·
  have hbad:=zIH (by assumption)
  refine go 3 [] [5,4] .n ?_
  intro a w hs;exact zBO hs rfl rfl rfl ⟨zRv hbad _,rfl⟩
 have hc0:=zCt (by assumption)
 have hc1:=zE3 hc0
 refine go 2 [] [17,16] .n ?_
 intro a w hs;refine zB (v:=.tuple #[qI (pQ (65536#64) n d),.bool (pM (65536#64) n d)]) hs (.c rfl (.c rfl (.c rfl .n))) call260 (zJq (65536#64) n d (by omega) (by omega) (by omega) (by omega) _) rfl ?_
 refine goL 6 [] [21] .n ?_
 intro a w hs;refine zAV (X:=pQ (65536#64) n d) hs rfl rfl underlying252 underlying2 rfl ?_
 refine goL 2 [] [5,4] .n ?_
 intro a w hs;exact zBO hs rfl rfl rfl ⟨zFi hc0 (zTz hc0),rfl⟩
theorem zGQ (L:List RI) (hiv:∀ x∈L,zDj x.v x.l.length) (v:Value) (w0:World) (hb:Rd w0 [] v 3 L.length (L.flatMap snV)):Calls Tryz.prog 148 #[v] w0 (zAh w0 (nI (zDc none (tms L)))):=by
 have hle:=hb.le
 simp only [maxLen] at hle
 refine zG (F0:=[(0,v)]) func148 rfl rfl rfl (.c .n) (Mem.nil _) ?_
 refine go 2 [] [5,0] .n ?_
 intro a w hs;refine zAG hs rfl (hs.rd0 hb).isSl underlying37 rfl ?_
 refine goL 1 [] [7,6,5,0] .n ?_
 intro a w hs;refine zCC (λmm_ a w=>∃ j:Nat,mm_=L.length-j∧St 36 [(0,v),(5,v),(6,nI L.length),(7,zI (j:Int))] w0 [] [] a w∧j≤L.length∧zDc (zIe L j) (tms (L.drop j))=zDc none (tms L)) ⟨0,rfl,hs.sub (.c rfl (.c rfl (.c rfl (.c rfl .n)))),by omega,rfl⟩ ?_
 clear hs w a;rintro mm_ a w ⟨j,rfl,hs,hI1_0,hI1_1⟩
 revert a w hs
 refine go 1 [] [8,0,5,6,7] .n ?_
 refine ifG rfl (λc_1=>?_) (λc_1=>?_)
 ·
  refine go 1 [] [9,0,5,6,7] .n ?_
  intro a w hs;refine zBF (j:=j) hs rfl rfl (hs.rd0 hb) rfl (by omega) underlying37 sizeOf46 rfl ?_
  intro a w hs;refine zAx (cs:=snV (L.getD j default)) hs rfl (hs.rd0 hb) (zAZ zAm L j (by omega)) (by rw [zAN zAm];omega) (by omega) isAgg46 sizeOf46 rfl ?_
  refine goL 7 [50,0] [16,3,4,0,5,6,7] .n (λg2=>⟨rfl,(zF rfl (zF rfl (zF (hiv _ (zD1 (by omega))).one zAX))),rfl,?_⟩)
  intro a w hs;refine zX (b:=decide (((L.getD j default).tm)<(-2305843009213693952))) (λc_3=>?_) (λc_3=>?_)
  ·
   rw [c_3] at hs
   replace c_3:=of_decide_eq_true c_3
   revert a w hs
   refine go 7 [] [2] .n ?_
   refine cl (·.drop (.c .z .n)) ?_
   intro a w hs;exact fin hs rfl rfl ⟨congrArg (λn:Nat=>Value.int .i64 (n:Int)) (zKM (by omega) hI1_1 (zbo (by omega)) (by decide)),rfl⟩
  rw [c_3] at hs
  replace c_3:=of_decide_eq_false c_3
  revert a w hs
  refine go 5 [0] [12,3,4,0,5,6,7] (.c .z .n) ⟨rfl,?_⟩
  refine ifG rfl (λc_4=>?_) (λc_4=>?_)
  ·
   refine go 1 [] [2] .n ?_
   refine cl (·.drop (.c .z .n)) ?_
   intro a w hs;exact fin hs rfl rfl ⟨congrArg (λn:Nat=>Value.int .i64 (n:Int)) (zKM (by omega) hI1_1 (zbo (by omega)) (by decide)),rfl⟩
  refine go 0 [] [3,4,0,5,6,7] .n ?_
  by_cases cz:0<j
  ·
   intro a w hs
   refine zO [.p [] [],.v [0] (.bool (true)),.p [1] [],.p [2] [],.p [3,2] [0],.p [2] [],.p [2] [],.v [6,2] (nI (j-1)),.v [7,5,2] (.pointer (some (adr v ((j-1)*3)))),.v [8,2] (.pointer (some (adr v ((j-1)*3+1)))),.v [9,2] (zI ((L.getD (j-1) default).tm)),.p [10,4,2] [],.p [11,2] [],.p [12] []] [13] hs .n (.c .z .n) (by kernel_rfl) ⟨λ_ _ _ _ hm hs K=>zKt hs rfl rfl rfl (λa w hs=>wpList_nil (K _ _ (by rw [show (decide (0<(j:Int)))=true from decide_eq_true (by omega)] at hs;exact hs))),rfl,?_,λ_ _ _ _ hm hs K=>zC hs rfl rfl rfl (zBF (j:=(j-1)) hs rfl rfl (hm.rd0 hb) rfl (by omega) underlying37 sizeOf46 rfl (vk K)),λ_ _ _ _ hm hs K=>zC hs rfl rfl rfl (zEU hs rfl (hm.rd0 hb) (by omega) underlying46 rfl sizeOf2 (by decide) (o:=(j-1)*3+1) rfl rfl (vk K)),λ_ _ _ _ hm hs K=>zC hs rfl rfl rfl (zBf (u:=zI ((L.getD (j-1) default).tm)) hs rfl (hm.rd0 hb) ((zBt zAm L (j-1) 1 (by omega) (by decide)).trans rfl) isAgg2 rfl (vk K)),⟨rfl,by kernel_rfl,λ_=>rfl,rfl,rfl,trivial⟩,λ_=>rfl,?_⟩
   ·
    intro a_ w_ R_ Q_ hm hs K_
    refine zC hs rfl rfl rfl ?_
    refine zH6 hs rfl rfl (by omega) rfl ?_;clear hs;intro a w hs
    have hv_:((j:Int)-1:Int)=(((j-1:Nat):Int):Int):=by omega
    rw [hv_] at hs;clear hv_
    exact wpList_nil (K_ _ _ hs)
   refine goE 0 [] [21,0,5,6,7] .n ?_
   refine ifG rfl (λc_6=>?_) (λc_6=>?_)
   ·
    refine go 1 [] [2] .n ?_
    refine cl (·.drop (.c .z .n)) ?_
    intro a w hs;exact fin hs rfl rfl ⟨congrArg (λn:Nat=>Value.int .i64 (n:Int)) (zKM (by omega) hI1_1 (zZ4 (by omega) (by omega) (by omega) (by assumption)) (by decide)),rfl⟩
   refine go 2 [] [7,0,5,6] .n ⟨(by omega),?_⟩
   refine cl (·.drop (.c .z .n)) ?_
   intro a w hs;refine ⟨_,?_,j+1,rfl,hs.sub (.c rfl (.c rfl (.c rfl (.c rfl .n)))),by omega,zLs (by omega) hI1_1 (zaV (by omega) (by omega) (by omega))⟩
   omega
  intro a w hs
  refine zO [.p [] [],.v [0] (.bool (false)),.p [1] [],.p [2] [],.p [3,2] [],.p [2] [],.p [2] [],.v [6,2] undef,.p [7,5,2] [],.p [8,2] [],.p [9,2] [],.p [10,4,2] [],.p [11,2] [],.p [12] []] [13] hs .n .n (by kernel_rfl) ⟨λ_ _ _ _ hm hs K=>zKt hs rfl rfl rfl (λa w hs=>wpList_nil (K _ _ (by rw [show (decide (0<(j:Int)))=false from decide_eq_false (by omega)] at hs;exact hs))),λ_ _ _ _ hm hs K=>zCV hs rfl rfl rfl rfl rfl (vk K),⟨rfl,by kernel_rfl,λ_=>rfl,rfl,rfl,trivial⟩,λ_=>rfl,?_⟩
  refine goE 3 [] [7,0,5,6] .n ⟨(by omega),?_⟩
  refine cl (·.drop (.c .z .n)) ?_
  intro a w hs;refine ⟨_,?_,j+1,rfl,hs.sub (.c rfl (.c rfl (.c rfl (.c rfl .n)))),by omega,zLs (by omega) hI1_1 (zaV (by omega) (by omega) (by omega))⟩
  omega
 refine go 1 [] [2] .n ?_
 intro a w hs;exact fin hs rfl rfl ⟨congrArg (λn:Nat=>Value.int .i64 (n:Int)) (zVj (by omega) hI1_1),rfl⟩
theorem zXu (x:RI) (hvx:zDj x.v x.l.length) (k:Int) (hxt : -9223372036854775808≤x.tm∧x.tm≤9223372036854775807) (hk : -9223372036854775808≤k∧k≤9223372036854775807)  (w0:World):Calls Tryz.prog 150 #[.agg #[zI x.t,zI x.tm,x.v],.int .i64 k] w0 (zAh w0 (.tuple #[zI ((zHG x k).1),nI ((zHG x k).2)])):=by
 refine zG (F0:=[(0,.agg #[zI x.t,zI x.tm,x.v]),(1,zI k)]) func150 rfl rfl rfl (.c (.c .n)) (Mem.nil _) ?_
 refine go 5 [0,0] [8,2,1] .n (λg1=>⟨rfl,λg2=>?_⟩)
 intro a w hs;refine zB (v:=nI (zDc none ([x.tm]))) hs (.c rfl .n) call148 (zGQ ([x]) (zbN hvx) (.slice (some ⟨g2,0,none⟩) 1 1) _ (zAJ (m:=1) (size:=3) (hs.mem.del .z) rfl (by decide))) rfl ?_
 refine goL 3 [] [11,6,2,1] .n ?_
 refine ifG rfl (λc_3=>?_) (λc_3=>?_)
 ·
  refine go 3 [] [5,4] .n ?_
  refine cl (·.drop (.c (.s .z) (.c .z .n))) ?_
  intro a w hs;exact zBO hs rfl rfl rfl ⟨by rw [zas (by assumption)]<;>rfl,rfl⟩
 have hc0:=zCt (by assumption)
 refine go 4 [0] [16,2,1] (.c (.s .z) .n) ⟨rfl,?_⟩
 refine ifG rfl (λc_4=>?_) (λc_4=>?_)
 ·
  refine go 2 [] [5,4] .n ?_
  refine cl (·.drop (.c (.s .z) (.c .z .n))) ?_
  intro a w hs;exact zBO hs rfl rfl rfl ⟨by rw [zbt hc0 (by omega)]<;>rfl,rfl⟩
 refine go 3 [0] [19,17] (.c .z .n) ⟨rfl,?_⟩
 intro a w hs;refine zB (v:=zI (zBV k x.tm)) hs (.c rfl (.c rfl .n)) call91 (zFk k x.tm (by omega) (by omega) _) rfl ?_
 refine goL 2 [] [5,4] .n ?_
 refine cl (·.drop (.c (.s .z) (.c .z .n))) ?_
 intro a w hs;exact zBO hs rfl rfl rfl ⟨by rw [za4 hc0 (by assumption)]<;>rfl,rfl⟩
theorem zUx (x y:RI) (hvx:zDj x.v x.l.length) (hvy:zDj y.v y.l.length) (k:Int) (w0:World):Calls Tryz.prog 153 #[.agg #[zI x.t,zI x.tm,x.v],.agg #[zI y.t,zI y.tm,y.v],.int .i64 k] w0 (zAh w0 (.tuple #[zI ((zAp x y k).1),zI ((zAp x y k).2.1),nI ((zAp x y k).2.2)])):=by
 refine zG (F0:=[(0,.agg #[zI x.t,zI x.tm,x.v]),(1,.agg #[zI y.t,zI y.tm,y.v]),(2,zI k)]) func153 rfl rfl rfl (.c (.c (.c .n))) (Mem.nil _) ?_
 refine go 8 [0,0,1,0] [12,4,3,2] .n (λg1=>λg2=>⟨rfl,rfl,λg3=>?_⟩)
 intro a w hs;refine zB (v:=nI (zDc none ([x.tm,y.tm]))) hs (.c rfl .n) call148 (zGQ ([x,y]) (zbg hvx hvy) (.slice (some ⟨g3,0,none⟩) 2 2) _ (zAJ (m:=2) (size:=3) (hs.mem.del .z) rfl (by decide))) rfl ?_
 refine goL 3 [] [15,9,4,3,2] .n ?_
 refine ifG rfl (λc_4=>?_) (λc_4=>?_)
 ·
  refine go 4 [] [8,7,6] .n ?_
  refine cl (·.drop (.c (.s (.s .z)) (.c (.s .z) (.c .z .n)))) ?_
  intro a w hs;exact zFO hs rfl rfl rfl rfl ⟨by rw [zXP (by assumption)]<;>rfl,rfl⟩
 have hc0:=zCt (by assumption)
 have hc1:=zN9 hc0
 refine go 5 [0] [21,4,3,2] (.c (.s (.s .z)) .n) ⟨rfl,?_⟩
 intro a w hs;refine zX (b:=decide (k<x.tm)) (λc_5=>?_) (λc_5=>?_)
 ·
  rw [c_5] at hs
  replace c_5:=of_decide_eq_true c_5
  revert a w hs
  refine go 9 [] [8,7,6] .n ?_
  refine cl (·.drop (.c (.s (.s .z)) (.c (.s .z) (.c .z .n)))) ?_
  intro a w hs;exact zFO hs rfl rfl rfl rfl ⟨by rw [zRa hc0 (by omega)]<;>rfl,rfl⟩
 rw [c_5] at hs
 replace c_5:=of_decide_eq_false c_5
 revert a w hs
 refine go 5 [0] [26,4,3,2] (.c (.s (.s .z)) .n) ⟨rfl,?_⟩
 refine ifG rfl (λc_6=>?_) (λc_6=>?_)
 ·
  refine go 3 [] [8,7,6] .n ?_
  refine cl (·.drop (.c (.s (.s .z)) (.c (.s .z) (.c .z .n)))) ?_
  intro a w hs;exact zFO hs rfl rfl rfl rfl ⟨by rw [zRa hc0 (by omega)]<;>rfl,rfl⟩
 refine go 0 [] [4,3,2] .n ?_
 intro a w hs
 refine zO [.p [] [],.p [] [],.p [1] [0],.p [2,0] [],.p [] [],.p [4] [1],.p [] [],.p [6] [0],.p [7,5] [],.p [3] [],.p [8] [],.p [] []] [9,10,11] hs .n (.c (.s .z) (.c .z .n)) (by kernel_rfl) ⟨rfl,(by omega),rfl,rfl,(by omega),⟨rfl,by kernel_rfl,λ_=>rfl,rfl,rfl,trivial⟩,λ_=>rfl,?_⟩
 refine goE 0 [] [8,7,6] .n ?_
 refine cl (·.drop (.c (.s (.s .z)) (.c (.s .z) (.c .z .n)))) ?_
 intro a w hs;exact zFO hs rfl rfl rfl rfl ⟨by rw [zXB hc0 (by assumption) (by assumption)]<;>rfl,rfl⟩
end Go.Proofs.YtljpfgacpofkpaaGreat
