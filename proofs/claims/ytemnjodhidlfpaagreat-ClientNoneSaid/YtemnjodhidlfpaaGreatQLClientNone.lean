import Derived.Test.YtemnjodhidlfpaaGreatQG23
import Derived.Test.YtemnjodhidlfpaaGreatQSxBasB
/- Walks of ClientNone: what each function does, over the program of this seat. Printed by a program of this session. -/
namespace Go.Proofs.YtemnjodhidlfpaaGreat
open Tryz
open Go Go.Sx Go.RowKit
set_option linter.unusedVariables false
set_option linter.unusedSimpArgs false
set_option maxRecDepth 4000
set_option maxHeartbeats 1000000

theorem zIN (c : zAa) (xe : EvR) (w0 : World) (hxe : xe.ok w0) (hk : zCp c ≠ 0) : Calls Tryz.prog 7 #[.agg #[zI c.ring, zI c.window, zI c.base, zI c.gain, zI c.least, zI c.most, zI c.slack, zI c.num, zI c.den, zI c.extra, .bool (c.curve)], .agg #[zI xe.k, zI xe.at_, xe.v]] w0 (zAZ w0 (.bool true)) := by
 have hxk := hxe.k; have hxa := hxe.at_
 refine zF (F0 := [(0, .agg #[zI c.ring, zI c.window, zI c.base, zI c.gain, zI c.least, zI c.most, zI c.slack, zI c.num, zI c.den, zI c.extra, .bool (c.curve)]), (1, .agg #[zI xe.k, zI xe.at_, xe.v])]) func7 rfl rfl rfl (.c (.c .n)) (Mem.nil _) ?_
 refine go 6 [0, 0, 0] [19, 18, 5, 3, 2] .n (fun g1 => fun g2 => ⟨rfl, ?_⟩)
 intro a w hs; refine zB (v := .tuple #[.agg #[.bool (false), zI 0, .slice none 0 0], zI 1]) hs (.c rfl (.c rfl .n)) call11 (zPd _ _ xe.v _ (hs.rd0 hxe.rd).isSl _) rfl ?_
 refine goL 9 [0, 1] [25, 23, 7, 6, 5, 3, 2] (.c .z .n) (fun g3 => ⟨rfl, rfl, ?_⟩)
 intro a w hs; refine zB (v := .agg #[.bool (false), zI 0, .slice none 0 0]) hs (.c rfl (.c rfl .n)) call22 (zIS xe.at_ _) rfl ?_
 refine goL 5 [0, 1] [30, 28, 8, 7, 6, 5, 3, 2] (.c (.s .z) .n) (fun g4 => ⟨rfl, rfl, ?_⟩)
 intro a w hs; refine zB (v := .tuple #[.agg #[zI 0, zI 0, .slice none 0 0], .bool (false)]) hs (.c rfl (.c rfl .n)) call13 (zLW xe.at_ _) rfl ?_
 refine goL 7 [0] [35, 10, 9, 8, 7, 6, 5, 3, 2] .n (fun g5 => ⟨rfl, ?_⟩)
 intro a w hs; refine zB (v := .tuple #[zI 0, zI 0, zI 0]) hs (.c rfl .n) call19 (zIZ  _) rfl ?_
 refine goL 29 [0, 0, 1, 2, 2] [61, 59, 57, 56, 13, 12, 11, 10, 9, 7, 5, 3, 2] (.c (.s (.s (.s .z))) (.c (.s .z) (.c (.s .z) .n))) ⟨rfl, rfl, rfl, rfl, rfl, ?_⟩
 intro a w hs; refine zD hs rfl rfl rfl ?_
 refine zB (v := zI 1) hs (.c rfl (.c rfl (.c rfl .n))) call15 (zHy xe.at_ xe.v _) rfl ?_
 refine goL 26 [0] [88, 87, 5, 3, 2] (.c (.s (.s (.s .z))) .n) ⟨rfl, ?_⟩
 intro a w hs; refine zD hs rfl rfl rfl ?_
 refine zB (v := zI 0) hs (.c rfl .n) call17 (zIr  _) rfl ?_
 refine goL 4 [] [93, 92, 5, 3, 2] .n ?_
 intro a w hs; refine zD hs rfl rfl rfl ?_
 refine zB (v := zI 0) hs (.c rfl (.c rfl .n)) call16 (zGr 9 _) rfl ?_
 refine goL 4 [] [98, 97, 5, 3, 2] .n ?_
 intro a w hs; refine zD hs rfl rfl rfl ?_
 refine zB (v := zI 0) hs (.c rfl .n) call21 (zHt  _) rfl ?_
 refine goL 4 [] [103, 102, 3, 2] .n ?_
 intro a w hs; refine zD hs rfl rfl rfl ?_
 refine zB (v := .slice none 0 0) hs (.c rfl .n) call12 (zKR _) rfl ?_
 refine goL 5 [0] [109, 3, 2] (.c (.s (.s (.s (.s .z)))) .n) ⟨rfl, ?_⟩
 intro a w hs; refine zB (v := .tuple #[.pointer (none), nI (zCp c)]) hs (.c rfl .n) call8 (zR7 c hk _) rfl ?_
 refine goL 7 [] [114, 15, 14, 3, 2] .n ?_
 have hb_ : (!((((zCp c : Nat) : Int) : Int) == 0)) = true := by simpa using hk
 intro a w hs; rw [hb_] at hs; clear hb_
 revert a w hs
 refine goF 4 4 [] [118, 15, 14, 3, 2] .n ?_
 refine go 1 [] [15, 2] .n ?_
 intro a w hs; refine zB (v := .bool (true)) hs .n call10 (zIw _) rfl ?_
 refine goL 3 [0] [122, 121, 120, 15] (.c .z .n) ⟨rfl, ?_⟩
 intro a w hs; refine zD hs rfl rfl rfl ?_
 refine zB (v := nI (zCp c)) hs (.c rfl .n) call23 (zTn c _) rfl ?_
 refine goL 1 [] [124, 120, 15] .n ?_
 have hb_ : ((((zCp c : Nat) : Int) : Int) == ((zCp c : Nat) : Int)) = true := by simp
 intro a w hs; rw [hb_] at hs; clear hb_
 revert a w hs
 refine go 4 [] [128, 126] .n ?_
 have hb_ : (!((((zCp c : Nat) : Int) : Int) == 0)) = true := by simpa using hk
 intro a w hs; rw [hb_] at hs; clear hb_
 revert a w hs
 refine go 2 [] [4] .n ?_
 refine cl (·.drop (.c (.s (.s (.s (.s .z)))) (.c (.s (.s (.s .z))) (.c (.s (.s .z)) (.c (.s .z) (.c .z .n)))))) ?_
 intro a w hs; exact fin hs rfl rfl ⟨rfl, rfl⟩
theorem zHS (c : zAa) (xe : EvR) (w0 : World) (hxe : xe.ok w0) (hk : zCp c = 0) : Calls Tryz.prog 7 #[.agg #[zI c.ring, zI c.window, zI c.base, zI c.gain, zI c.least, zI c.most, zI c.slack, zI c.num, zI c.den, zI c.extra, .bool (c.curve)], .agg #[zI xe.k, zI xe.at_, xe.v]] w0 (zAZ w0 (.bool true)) := by
 have hxk := hxe.k; have hxa := hxe.at_
 have e3 : zE9 c (C0 c) xe.at_ = ⟨false, 0, []⟩ := if_neg (Nat.lt_irrefl 0)
 refine zF (F0 := [(0, .agg #[zI c.ring, zI c.window, zI c.base, zI c.gain, zI c.least, zI c.most, zI c.slack, zI c.num, zI c.den, zI c.extra, .bool (c.curve)]), (1, .agg #[zI xe.k, zI xe.at_, xe.v])]) func7 rfl rfl rfl (.c (.c .n)) (Mem.nil _) ?_
 refine go 6 [0, 0, 0] [19, 18, 5, 3, 2] .n (fun g1 => fun g2 => ⟨rfl, ?_⟩)
 intro a w hs; refine zB (v := .tuple #[.agg #[.bool (false), zI 0, .slice none 0 0], zI 1]) hs (.c rfl (.c rfl .n)) call11 (zPd _ _ xe.v _ (hs.rd0 hxe.rd).isSl _) rfl ?_
 refine goL 9 [0, 1] [25, 23, 7, 6, 5, 3, 2] (.c .z .n) (fun g3 => ⟨rfl, rfl, ?_⟩)
 intro a w hs; refine zB (v := .agg #[.bool (false), zI 0, .slice none 0 0]) hs (.c rfl (.c rfl .n)) call22 (zIS xe.at_ _) rfl ?_
 refine goL 5 [0, 1] [30, 28, 8, 7, 6, 5, 3, 2] (.c (.s .z) .n) (fun g4 => ⟨rfl, rfl, ?_⟩)
 intro a w hs; refine zB (v := .tuple #[.agg #[zI 0, zI 0, .slice none 0 0], .bool (false)]) hs (.c rfl (.c rfl .n)) call13 (zLW xe.at_ _) rfl ?_
 refine goL 7 [0] [35, 10, 9, 8, 7, 6, 5, 3, 2] .n (fun g5 => ⟨rfl, ?_⟩)
 intro a w hs; refine zB (v := .tuple #[zI 0, zI 0, zI 0]) hs (.c rfl .n) call19 (zIZ  _) rfl ?_
 refine goL 29 [0, 0, 1, 2, 2] [61, 59, 57, 56, 13, 12, 11, 10, 9, 7, 5, 3, 2] (.c (.s (.s (.s .z))) (.c (.s .z) (.c (.s .z) .n))) ⟨rfl, rfl, rfl, rfl, rfl, ?_⟩
 intro a w hs; refine zD hs rfl rfl rfl ?_
 refine zB (v := zI 1) hs (.c rfl (.c rfl (.c rfl .n))) call15 (zHy xe.at_ xe.v _) rfl ?_
 refine goL 26 [0] [88, 87, 5, 3, 2] (.c (.s (.s (.s .z))) .n) ⟨rfl, ?_⟩
 intro a w hs; refine zD hs rfl rfl rfl ?_
 refine zB (v := zI 0) hs (.c rfl .n) call17 (zIr  _) rfl ?_
 refine goL 4 [] [93, 92, 5, 3, 2] .n ?_
 intro a w hs; refine zD hs rfl rfl rfl ?_
 refine zB (v := zI 0) hs (.c rfl (.c rfl .n)) call16 (zGr 9 _) rfl ?_
 refine goL 4 [] [98, 97, 5, 3, 2] .n ?_
 intro a w hs; refine zD hs rfl rfl rfl ?_
 refine zB (v := zI 0) hs (.c rfl .n) call21 (zHt  _) rfl ?_
 refine goL 4 [] [103, 102, 3, 2] .n ?_
 intro a w hs; refine zD hs rfl rfl rfl ?_
 refine zB (v := .slice none 0 0) hs (.c rfl .n) call12 (zKR _) rfl ?_
 refine goL 5 [0] [109, 3, 2] (.c (.s (.s (.s (.s .z)))) .n) ⟨rfl, ?_⟩
 intro a w hs; refine zK hs (.c rfl .n) call8 .n (zPv c hk _) rfl ?_; clear hs w a; rintro _ _ a w ⟨g6, Y7, rfl, rfl, hY8⟩ hs
 revert a w hs
 refine goL 15 [0] [132, 130, 14] (.c (.s (.s (.s (.s (.s .z))))) .n) ⟨rfl, ?_⟩
 intro a w hs; refine zK hs (.c rfl (.c rfl .n)) call22 (.c (.s .z) .n) (zQL hY8 hk (zYq hk) (fun i => Nat.zero_le _) (Nat.zero_le _) xe.at_ ⟨by omega, by omega⟩ _ (hs.mem.del (.s .z))) rfl ?_; clear hs w a; rintro _ _ a w ⟨v11, rfl, Y9, rfl, hY10⟩ hs
 rw [e3] at hs
 replace hs := hs.rerow .z (m' := 0) (xs' := []) rfl rfl
 revert a w hs
 refine goL 1 [] [16, 133, 14] .n (fun g12 => ?_)
 intro a w hs; refine zAl hs rfl rfl .z (.z (.c (.c (.c .n)))) (zN rfl (zN rfl (zN (zQ (hs.mem.del (.s .z))).isSl.one zAt))) sizeOf36 rfl ?_
 refine goL 0 [] [16, 14] .n ?_
 intro a w hs; refine zB (v := .bool (true)) hs .n call10 (zIw _) rfl ?_
 refine goL 13 [0, 0, 0] [147, 145, 14] (.c .z .n) ⟨rfl, rfl, rfl, ?_⟩
 intro a w hs; refine zD hs rfl rfl rfl ?_
 refine zAK hs rfl (zQ (hs.mem.del (.s .z))).isSl underlying34 rfl ?_
 refine cl (·.recell (v' := zI 0) (Option.some.inj rfl)) ?_
 refine goL 1 [] [149, 145, 14] .n ?_
 refine go 3 [] [152, 151, 14] .n ?_
 intro a w hs; refine zD hs rfl rfl rfl ?_
 refine zB (v := nI ((zZ4 c (C0 c) xe.at_).fr)) hs (.c rfl .n) call21 (zOR hY10  _ (hs.mem.del (.s (.s .z)))) rfl ?_
 refine goL 1 [] [154, 151, 14] .n ?_
 have hb_ : (((((zZ4 c (C0 c) xe.at_).fr : Nat) : Int) : Int) == 1) = true := by rfl
 intro a w hs; rw [hb_] at hs; clear hb_
 revert a w hs
 refine go 3 [] [157, 156] .n ?_
 intro a w hs; refine zD hs rfl rfl rfl ?_
 refine zK hs (.c rfl .n) call12 .n (zTO hY10 _ (hs.mem.del (.s (.s .z)))) rfl ?_; clear hs w a; rintro v13 _ a w rfl hs
 refine zD hs rfl rfl rfl ?_
 refine zAK hs rfl (zQ (hs.mem.del .z)).isSl underlying40 rfl ?_
 refine goL 1 [] [160, 156] .n ?_
 have hb_ : (((((zZ4 c (C0 c) xe.at_).σ.l.length : Nat) : Int) : Int) == 0) = true := by rfl
 intro a w hs; rw [hb_] at hs; clear hb_
 revert a w hs
 refine go 2 [] [4] .n ?_
 refine cl (·.drop (.c (.s (.s (.s (.s (.s (.s (.s (.s .z)))))))) (.c (.s (.s (.s (.s (.s (.s (.s .z))))))) (.c (.s (.s (.s (.s (.s (.s .z)))))) (.c (.s (.s (.s (.s (.s .z))))) (.c (.s (.s (.s (.s .z)))) (.c (.s (.s (.s .z))) (.c (.s (.s .z)) (.c (.s .z) (.c .z .n)))))))))) ?_
 intro a w hs; exact fin hs rfl rfl ⟨rfl, rfl⟩
theorem zJ1 (c : zAa) (xe : EvR) (w0 : World) (hxe : xe.ok w0) : Calls Tryz.prog 7 #[.agg #[zI c.ring, zI c.window, zI c.base, zI c.gain, zI c.least, zI c.most, zI c.slack, zI c.num, zI c.den, zI c.extra, .bool (c.curve)], .agg #[zI xe.k, zI xe.at_, xe.v]] w0 (zAZ w0 (.bool true)) := by
 by_cases hk : zCp c = 0
 · exact zHS c xe w0 hxe hk
 · exact zIN c xe w0 hxe hk
end Go.Proofs.YtemnjodhidlfpaaGreat
