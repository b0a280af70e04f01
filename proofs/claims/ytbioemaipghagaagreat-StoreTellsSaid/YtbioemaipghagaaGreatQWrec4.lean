/- Walks of what is others with an entity: what each function does, over the program of this seat. Printed by a program of this session. -/
import Derived.Test.YtbioemaipghagaaGreatQWrec
import Derived.Test.YtbioemaipghagaaGreatQSxRecs
import Derived.Test.YtbioemaipghagaaGreatQSxBasB
namespace Go.Proofs.YtbioemaipghagaaGreat
open Go Go.Sx Go.RowKit
set_option linter.unusedVariables false
set_option linter.unusedSimpArgs false
set_option maxRecDepth 4000
set_option maxHeartbeats 1000000

theorem diff_ok (ea eb : EntR) (w0 : World) : Calls Tryz.prog 60 #[.agg #[.int .i64 (ea.id), .int .i64 (ea.p0), .int .i64 (ea.p1), .int .i64 (ea.p2), .int .i64 (ea.v0), .int .i64 (ea.v1), .int .i64 (ea.v2), .int .u16 ((((ea.a).toNat : Nat) : Int)), .int .u8 ((((ea.g).toNat : Nat) : Int))], .agg #[.int .i64 (eb.id), .int .i64 (eb.p0), .int .i64 (eb.p1), .int .i64 (eb.p2), .int .i64 (eb.v0), .int .i64 (eb.v1), .int .i64 (eb.v2), .int .u16 ((((eb.a).toNat : Nat) : Int)), .int .u8 ((((eb.g).toNat : Nat) : Int))]] w0 (RetV w0 (.tuple #[.agg #[.int .i64 (((recDiff ea eb).1).k), .int .i64 (((recDiff ea eb).1).id), .int .i64 (((recDiff ea eb).1).p0), .int .i64 (((recDiff ea eb).1).p1), .int .i64 (((recDiff ea eb).1).p2), .int .i64 (((recDiff ea eb).1).v0), .int .i64 (((recDiff ea eb).1).v1), .int .i64 (((recDiff ea eb).1).v2), .int .u16 ((((((recDiff ea eb).1).a).toNat : Nat) : Int))], .bool (recDiff ea eb).2])) := by
 refine enterG (F0 := [(0, .agg #[.int .i64 (ea.id), .int .i64 (ea.p0), .int .i64 (ea.p1), .int .i64 (ea.p2), .int .i64 (ea.v0), .int .i64 (ea.v1), .int .i64 (ea.v2), .int .u16 ((((ea.a).toNat : Nat) : Int)), .int .u8 ((((ea.g).toNat : Nat) : Int))]), (1, .agg #[.int .i64 (eb.id), .int .i64 (eb.p0), .int .i64 (eb.p1), .int .i64 (eb.p2), .int .i64 (eb.v0), .int .i64 (eb.v1), .int .i64 (eb.v2), .int .u16 ((((eb.a).toNat : Nat) : Int)), .int .u8 ((((eb.g).toNat : Nat) : Int))])]) Tryz.func60 rfl rfl rfl (.c (.c .n)) (Mem.nil _) fun a w hs => ?_
 refine goF 14 7 [0, 0, 2, 1] [13, 4, 3, 2] hs .n (fun g1 => fun g2 => fun g3 => ⟨rfl, rfl, by kernel_rfl, ?_⟩); clear hs w a; intro a w hs
 replace hs := hs.recell (v' := .bool (entEq ea eb)) (Option.some.inj rfl)
 refine go 0 [] [13, 4, 3, 2] hs .n ?_; clear hs w a; intro a w hs
 refine ifG hs rfl (fun c_4 => ?_) (fun c_4 => ?_)
 ·
  refine go 3 [0] [5, 4] hs (.c .z .n) ⟨rfl, ?_⟩; clear hs w a; intro a w hs
  exact finC2 hs rfl rfl rfl .z (.z (.c (.c (.c (.c (.c (.c (.c (.c (.c .n)))))))))) Tryz.isAgg78 Tryz.sizeOf78 (.c .z (.c .z (.c .z .n))) (by first | (rw [recDiff_eq (by assumption)]; exact ⟨rfl, rfl⟩) | (rw [recDiff_upd (by assumption) (by omega)]; exact ⟨rfl, rfl⟩) | (rw [recDiff_tel (by assumption) (by omega)]; exact ⟨rfl, rfl⟩))
 refine go 16 [0, 0, 0, 0, 0, 2, 1] [28, 6, 4, 2] hs (.c (.s .z) (.c (.s .z) .n)) ⟨rfl, rfl, rfl, rfl, fun g5 => ⟨rfl, rfl, rfl, ?_⟩⟩; clear hs w a; intro a w hs
 refine ifG hs rfl (fun c_6 => ?_) (fun c_6 => ?_)
 ·
  replace c_6 := eq_of_beq c_6
  refine go 9 [0, 1, 1, 0] [7, 6, 4, 2] hs (.c .z (.c (.s .z) .n)) ⟨rfl, rfl, rfl, fun g7 => ⟨rfl, ?_⟩⟩; clear hs w a; intro a w hs
  refine st_callP (v := .agg #[.pointer (some ⟨g7, 2, none⟩), .pointer (some ⟨g7, 3, none⟩), .pointer (some ⟨g7, 4, none⟩), .pointer (some ⟨g7, 5, none⟩), .pointer (some ⟨g7, 6, none⟩), .pointer (some ⟨g7, 7, none⟩)]) hs (.c rfl .n) Tryz.call87 (nums_ok g7 _) rfl ?_; clear hs w a; intro a w hs
  refine goL 2 [0] [8, 6, 4, 2] hs .n (fun g8 => ⟨rfl, ?_⟩); clear hs w a; intro a w hs
  refine st_callP (v := .agg #[.pointer (some ⟨g5, 2, none⟩), .pointer (some ⟨g5, 3, none⟩), .pointer (some ⟨g5, 4, none⟩), .pointer (some ⟨g5, 5, none⟩), .pointer (some ⟨g5, 6, none⟩), .pointer (some ⟨g5, 7, none⟩)]) hs (.c rfl .n) Tryz.call87 (nums_ok g5 _) rfl ?_; clear hs w a; intro a w hs
  refine goL 1 [] [37, 36, 8, 6, 4, 2] hs .n ?_; clear hs w a; intro a w hs
  refine roundsG 6 ?_
  refine go 6 [] [10, 9, 37, 36, 8, 6, 4, 2] hs .n ?_; clear hs w a; intro a w hs
  refine wp_drawS [.p [] [], .p [0] [], .x [1] ⟨[], [], [], fun vs9 => vs9 2 = .int .i64 (eb.p0), fun vs9 => [], none⟩, .p [] [], .p [3] [], .p [4] [0], .p [5] [], .p [6] [1], .x [7] ⟨[], [], [], fun vs9 => vs9 8 = .int .i64 (IntKind.i64.wrap (eb.p0 - ea.p0)), fun vs9 => [], none⟩, .p [0] [], .x [9] ⟨[blk g5 [.int .i64 (1), .int .i64 (eb.id), .int .i64 (eb.p0), .int .i64 (eb.p1), .int .i64 (eb.p2), .int .i64 (eb.v0), .int .i64 (eb.v1), .int .i64 (eb.v2), .int .u16 ((((eb.a).toNat : Nat) : Int))] 78], [], [], fun vs9 => True, fun vs9 => [blk g5 [.int .i64 (1), .int .i64 (eb.id), .int .i64 (IntKind.i64.wrap (eb.p0 - ea.p0)), .int .i64 (eb.p1), .int .i64 (eb.p2), .int .i64 (eb.v0), .int .i64 (eb.v1), .int .i64 (eb.v2), .int .u16 ((((eb.a).toNat : Nat) : Int))] 78], none⟩] [] hs (.c (.s (.s .z)) .n) (.c .z (.c .z .n)) (by kernel_rfl) ⟨rfl, rfl, ⟨rfl, by kernel_rfl, fun _ => rfl⟩, ⟨?_, ?_, ?_, trivial⟩, ?_⟩
  ·
   intro a_ w_ R_ rest_ vs9 hm hs ht hx
   have hs0 := hs.bare
   refine st_ldE hs rfl (hm.own (List.mem_append.2 (.inr ((hx 10 (twB_spec 11 _ (by kernel_rfl))).1 _ (List.Mem.head _))))) (.s (.s .z)) Tryz.isAgg2 rfl ?_; clear hs; intro a w hs
   exact wpList_nil ⟨rfl, _, _, hs0, (.c .r), hs, rfl⟩
  ·
   intro a_ w_ R_ rest_ vs9 hm hs ht hx
   have t2 := ht 2 (twB_spec 11 _ (by kernel_rfl))
   have e2 : _ = some (vs9 2) := t2.val rfl
   rw [show vs9 2 = .int .i64 (eb.p0) from t2.2.1] at e2
   replace hs := hs.learn e2
   have hs0 := hs.bare
   refine st_sub hs rfl rfl rfl ?_; clear hs; intro a w hs
   exact wpList_nil ⟨rfl, _, _, hs0, (.c (.c .r)), hs, rfl⟩
  ·
   intro a_ w_ R_ rest_ vs9 hm hs ht hx
   have t8 := ht 8 (twB_spec 11 _ (by kernel_rfl))
   have e8 : _ = some (vs9 8) := t8.val rfl
   rw [show vs9 8 = .int .i64 (IntKind.i64.wrap (eb.p0 - ea.p0)) from t8.2.1] at e8
   replace hs := hs.learn e8
   have hs0 := hs.bare
   refine st_stB hs rfl rfl .z (.s (.s .z)) rfl Tryz.sizeOf2 ?_; clear hs; intro a w hs
   exact wpList_nil ⟨rfl, .tuple #[], _, hs0, (.c (.c .r)), hs, trivial⟩
  clear hs w a; intro vs9 a w hs hf
  clear hf
  refine goE 2 [] [37, 36, 8, 6, 4, 2] hs .n ⟨by decide, ?_⟩; clear hs w a; intro a w hs
  refine againG ?_
  refine go 6 [] [10, 9, 37, 36, 8, 6, 4, 2] hs .n ?_; clear hs w a; intro a w hs
  refine wp_drawS [.p [] [], .p [0] [], .x [1] ⟨[], [], [], fun vs10 => vs10 2 = .int .i64 (eb.p1), fun vs10 => [], none⟩, .p [] [], .p [3] [], .p [4] [0], .p [5] [], .p [6] [1], .x [7] ⟨[], [], [], fun vs10 => vs10 8 = .int .i64 (IntKind.i64.wrap (eb.p1 - ea.p1)), fun vs10 => [], none⟩, .p [0] [], .x [9] ⟨[blk g5 [.int .i64 (1), .int .i64 (eb.id), .int .i64 (IntKind.i64.wrap (eb.p0 - ea.p0)), .int .i64 (eb.p1), .int .i64 (eb.p2), .int .i64 (eb.v0), .int .i64 (eb.v1), .int .i64 (eb.v2), .int .u16 ((((eb.a).toNat : Nat) : Int))] 78], [], [], fun vs10 => True, fun vs10 => [blk g5 [.int .i64 (1), .int .i64 (eb.id), .int .i64 (IntKind.i64.wrap (eb.p0 - ea.p0)), .int .i64 (IntKind.i64.wrap (eb.p1 - ea.p1)), .int .i64 (eb.p2), .int .i64 (eb.v0), .int .i64 (eb.v1), .int .i64 (eb.v2), .int .u16 ((((eb.a).toNat : Nat) : Int))] 78], none⟩] [] hs (.c (.s (.s (.s (.s (.s .z))))) .n) (.c .z (.c .z .n)) (by kernel_rfl) ⟨rfl, rfl, ⟨rfl, by kernel_rfl, fun _ => rfl⟩, ⟨?_, ?_, ?_, trivial⟩, ?_⟩
  ·
   intro a_ w_ R_ rest_ vs10 hm hs ht hx
   have hs0 := hs.bare
   refine st_ldE hs rfl (hm.own (List.mem_append.2 (.inr ((hx 10 (twB_spec 11 _ (by kernel_rfl))).1 _ (List.Mem.head _))))) (.s (.s (.s .z))) Tryz.isAgg2 rfl ?_; clear hs; intro a w hs
   exact wpList_nil ⟨rfl, _, _, hs0, (.c .r), hs, rfl⟩
  ·
   intro a_ w_ R_ rest_ vs10 hm hs ht hx
   have t2 := ht 2 (twB_spec 11 _ (by kernel_rfl))
   have e2 : _ = some (vs10 2) := t2.val rfl
   rw [show vs10 2 = .int .i64 (eb.p1) from t2.2.1] at e2
   replace hs := hs.learn e2
   have hs0 := hs.bare
   refine st_sub hs rfl rfl rfl ?_; clear hs; intro a w hs
   exact wpList_nil ⟨rfl, _, _, hs0, (.c (.c .r)), hs, rfl⟩
  ·
   intro a_ w_ R_ rest_ vs10 hm hs ht hx
   have t8 := ht 8 (twB_spec 11 _ (by kernel_rfl))
   have e8 : _ = some (vs10 8) := t8.val rfl
   rw [show vs10 8 = .int .i64 (IntKind.i64.wrap (eb.p1 - ea.p1)) from t8.2.1] at e8
   replace hs := hs.learn e8
   have hs0 := hs.bare
   refine st_stB hs rfl rfl .z (.s (.s (.s .z))) rfl Tryz.sizeOf2 ?_; clear hs; intro a w hs
   exact wpList_nil ⟨rfl, .tuple #[], _, hs0, (.c (.c .r)), hs, trivial⟩
  clear hs w a; intro vs10 a w hs hf
  clear hf
  refine goE 2 [] [37, 36, 8, 6, 4, 2] hs .n ⟨by decide, ?_⟩; clear hs w a; intro a w hs
  refine againG ?_
  refine go 6 [] [10, 9, 37, 36, 8, 6, 4, 2] hs .n ?_; clear hs w a; intro a w hs
  refine wp_drawS [.p [] [], .p [0] [], .x [1] ⟨[], [], [], fun vs11 => vs11 2 = .int .i64 (eb.p2), fun vs11 => [], none⟩, .p [] [], .p [3] [], .p [4] [0], .p [5] [], .p [6] [1], .x [7] ⟨[], [], [], fun vs11 => vs11 8 = .int .i64 (IntKind.i64.wrap (eb.p2 - ea.p2)), fun vs11 => [], none⟩, .p [0] [], .x [9] ⟨[blk g5 [.int .i64 (1), .int .i64 (eb.id), .int .i64 (IntKind.i64.wrap (eb.p0 - ea.p0)), .int .i64 (IntKind.i64.wrap (eb.p1 - ea.p1)), .int .i64 (eb.p2), .int .i64 (eb.v0), .int .i64 (eb.v1), .int .i64 (eb.v2), .int .u16 ((((eb.a).toNat : Nat) : Int))] 78], [], [], fun vs11 => True, fun vs11 => [blk g5 [.int .i64 (1), .int .i64 (eb.id), .int .i64 (IntKind.i64.wrap (eb.p0 - ea.p0)), .int .i64 (IntKind.i64.wrap (eb.p1 - ea.p1)), .int .i64 (IntKind.i64.wrap (eb.p2 - ea.p2)), .int .i64 (eb.v0), .int .i64 (eb.v1), .int .i64 (eb.v2), .int .u16 ((((eb.a).toNat : Nat) : Int))] 78], none⟩] [] hs (.c (.s (.s (.s (.s (.s .z))))) .n) (.c .z (.c .z .n)) (by kernel_rfl) ⟨rfl, rfl, ⟨rfl, by kernel_rfl, fun _ => rfl⟩, ⟨?_, ?_, ?_, trivial⟩, ?_⟩
  ·
   intro a_ w_ R_ rest_ vs11 hm hs ht hx
   have hs0 := hs.bare
   refine st_ldE hs rfl (hm.own (List.mem_append.2 (.inr ((hx 10 (twB_spec 11 _ (by kernel_rfl))).1 _ (List.Mem.head _))))) (.s (.s (.s (.s .z)))) Tryz.isAgg2 rfl ?_; clear hs; intro a w hs
   exact wpList_nil ⟨rfl, _, _, hs0, (.c .r), hs, rfl⟩
  ·
   intro a_ w_ R_ rest_ vs11 hm hs ht hx
   have t2 := ht 2 (twB_spec 11 _ (by kernel_rfl))
   have e2 : _ = some (vs11 2) := t2.val rfl
   rw [show vs11 2 = .int .i64 (eb.p2) from t2.2.1] at e2
   replace hs := hs.learn e2
   have hs0 := hs.bare
   refine st_sub hs rfl rfl rfl ?_; clear hs; intro a w hs
   exact wpList_nil ⟨rfl, _, _, hs0, (.c (.c .r)), hs, rfl⟩
  ·
   intro a_ w_ R_ rest_ vs11 hm hs ht hx
   have t8 := ht 8 (twB_spec 11 _ (by kernel_rfl))
   have e8 : _ = some (vs11 8) := t8.val rfl
   rw [show vs11 8 = .int .i64 (IntKind.i64.wrap (eb.p2 - ea.p2)) from t8.2.1] at e8
   replace hs := hs.learn e8
   have hs0 := hs.bare
   refine st_stB hs rfl rfl .z (.s (.s (.s (.s .z)))) rfl Tryz.sizeOf2 ?_; clear hs; intro a w hs
   exact wpList_nil ⟨rfl, .tuple #[], _, hs0, (.c (.c .r)), hs, trivial⟩
  clear hs w a; intro vs11 a w hs hf
  clear hf
  refine goE 2 [] [37, 36, 8, 6, 4, 2] hs .n ⟨by decide, ?_⟩; clear hs w a; intro a w hs
  refine againG ?_
  refine go 6 [] [10, 9, 37, 36, 8, 6, 4, 2] hs .n ?_; clear hs w a; intro a w hs
  refine wp_drawS [.p [] [], .p [0] [], .x [1] ⟨[], [], [], fun vs12 => vs12 2 = .int .i64 (eb.v0), fun vs12 => [], none⟩, .p [] [], .p [3] [], .p [4] [0], .p [5] [], .p [6] [1], .x [7] ⟨[], [], [], fun vs12 => vs12 8 = .int .i64 (IntKind.i64.wrap (eb.v0 - ea.v0)), fun vs12 => [], none⟩, .p [0] [], .x [9] ⟨[blk g5 [.int .i64 (1), .int .i64 (eb.id), .int .i64 (IntKind.i64.wrap (eb.p0 - ea.p0)), .int .i64 (IntKind.i64.wrap (eb.p1 - ea.p1)), .int .i64 (IntKind.i64.wrap (eb.p2 - ea.p2)), .int .i64 (eb.v0), .int .i64 (eb.v1), .int .i64 (eb.v2), .int .u16 ((((eb.a).toNat : Nat) : Int))] 78], [], [], fun vs12 => True, fun vs12 => [blk g5 [.int .i64 (1), .int .i64 (eb.id), .int .i64 (IntKind.i64.wrap (eb.p0 - ea.p0)), .int .i64 (IntKind.i64.wrap (eb.p1 - ea.p1)), .int .i64 (IntKind.i64.wrap (eb.p2 - ea.p2)), .int .i64 (IntKind.i64.wrap (eb.v0 - ea.v0)), .int .i64 (eb.v1), .int .i64 (eb.v2), .int .u16 ((((eb.a).toNat : Nat) : Int))] 78], none⟩] [] hs (.c (.s (.s (.s (.s (.s .z))))) .n) (.c .z (.c .z .n)) (by kernel_rfl) ⟨rfl, rfl, ⟨rfl, by kernel_rfl, fun _ => rfl⟩, ⟨?_, ?_, ?_, trivial⟩, ?_⟩
  ·
   intro a_ w_ R_ rest_ vs12 hm hs ht hx
   have hs0 := hs.bare
   refine st_ldE hs rfl (hm.own (List.mem_append.2 (.inr ((hx 10 (twB_spec 11 _ (by kernel_rfl))).1 _ (List.Mem.head _))))) (.s (.s (.s (.s (.s .z))))) Tryz.isAgg2 rfl ?_; clear hs; intro a w hs
   exact wpList_nil ⟨rfl, _, _, hs0, (.c .r), hs, rfl⟩
  ·
   intro a_ w_ R_ rest_ vs12 hm hs ht hx
   have t2 := ht 2 (twB_spec 11 _ (by kernel_rfl))
   have e2 : _ = some (vs12 2) := t2.val rfl
   rw [show vs12 2 = .int .i64 (eb.v0) from t2.2.1] at e2
   replace hs := hs.learn e2
   have hs0 := hs.bare
   refine st_sub hs rfl rfl rfl ?_; clear hs; intro a w hs
   exact wpList_nil ⟨rfl, _, _, hs0, (.c (.c .r)), hs, rfl⟩
  ·
   intro a_ w_ R_ rest_ vs12 hm hs ht hx
   have t8 := ht 8 (twB_spec 11 _ (by kernel_rfl))
   have e8 : _ = some (vs12 8) := t8.val rfl
   rw [show vs12 8 = .int .i64 (IntKind.i64.wrap (eb.v0 - ea.v0)) from t8.2.1] at e8
   replace hs := hs.learn e8
   have hs0 := hs.bare
   refine st_stB hs rfl rfl .z (.s (.s (.s (.s (.s .z))))) rfl Tryz.sizeOf2 ?_; clear hs; intro a w hs
   exact wpList_nil ⟨rfl, .tuple #[], _, hs0, (.c (.c .r)), hs, trivial⟩
  clear hs w a; intro vs12 a w hs hf
  clear hf
  refine goE 2 [] [37, 36, 8, 6, 4, 2] hs .n ⟨by decide, ?_⟩; clear hs w a; intro a w hs
  refine againG ?_
  refine go 6 [] [10, 9, 37, 36, 8, 6, 4, 2] hs .n ?_; clear hs w a; intro a w hs
  refine wp_drawS [.p [] [], .p [0] [], .x [1] ⟨[], [], [], fun vs13 => vs13 2 = .int .i64 (eb.v1), fun vs13 => [], none⟩, .p [] [], .p [3] [], .p [4] [0], .p [5] [], .p [6] [1], .x [7] ⟨[], [], [], fun vs13 => vs13 8 = .int .i64 (IntKind.i64.wrap (eb.v1 - ea.v1)), fun vs13 => [], none⟩, .p [0] [], .x [9] ⟨[blk g5 [.int .i64 (1), .int .i64 (eb.id), .int .i64 (IntKind.i64.wrap (eb.p0 - ea.p0)), .int .i64 (IntKind.i64.wrap (eb.p1 - ea.p1)), .int .i64 (IntKind.i64.wrap (eb.p2 - ea.p2)), .int .i64 (IntKind.i64.wrap (eb.v0 - ea.v0)), .int .i64 (eb.v1), .int .i64 (eb.v2), .int .u16 ((((eb.a).toNat : Nat) : Int))] 78], [], [], fun vs13 => True, fun vs13 => [blk g5 [.int .i64 (1), .int .i64 (eb.id), .int .i64 (IntKind.i64.wrap (eb.p0 - ea.p0)), .int .i64 (IntKind.i64.wrap (eb.p1 - ea.p1)), .int .i64 (IntKind.i64.wrap (eb.p2 - ea.p2)), .int .i64 (IntKind.i64.wrap (eb.v0 - ea.v0)), .int .i64 (IntKind.i64.wrap (eb.v1 - ea.v1)), .int .i64 (eb.v2), .int .u16 ((((eb.a).toNat : Nat) : Int))] 78], none⟩] [] hs (.c (.s (.s (.s (.s (.s .z))))) .n) (.c .z (.c .z .n)) (by kernel_rfl) ⟨rfl, rfl, ⟨rfl, by kernel_rfl, fun _ => rfl⟩, ⟨?_, ?_, ?_, trivial⟩, ?_⟩
  ·
   intro a_ w_ R_ rest_ vs13 hm hs ht hx
   have hs0 := hs.bare
   refine st_ldE hs rfl (hm.own (List.mem_append.2 (.inr ((hx 10 (twB_spec 11 _ (by kernel_rfl))).1 _ (List.Mem.head _))))) (.s (.s (.s (.s (.s (.s .z)))))) Tryz.isAgg2 rfl ?_; clear hs; intro a w hs
   exact wpList_nil ⟨rfl, _, _, hs0, (.c .r), hs, rfl⟩
  ·
   intro a_ w_ R_ rest_ vs13 hm hs ht hx
   have t2 := ht 2 (twB_spec 11 _ (by kernel_rfl))
   have e2 : _ = some (vs13 2) := t2.val rfl
   rw [show vs13 2 = .int .i64 (eb.v1) from t2.2.1] at e2
   replace hs := hs.learn e2
   have hs0 := hs.bare
   refine st_sub hs rfl rfl rfl ?_; clear hs; intro a w hs
   exact wpList_nil ⟨rfl, _, _, hs0, (.c (.c .r)), hs, rfl⟩
  ·
   intro a_ w_ R_ rest_ vs13 hm hs ht hx
   have t8 := ht 8 (twB_spec 11 _ (by kernel_rfl))
   have e8 : _ = some (vs13 8) := t8.val rfl
   rw [show vs13 8 = .int .i64 (IntKind.i64.wrap (eb.v1 - ea.v1)) from t8.2.1] at e8
   replace hs := hs.learn e8
   have hs0 := hs.bare
   refine st_stB hs rfl rfl .z (.s (.s (.s (.s (.s (.s .z)))))) rfl Tryz.sizeOf2 ?_; clear hs; intro a w hs
   exact wpList_nil ⟨rfl, .tuple #[], _, hs0, (.c (.c .r)), hs, trivial⟩
  clear hs w a; intro vs13 a w hs hf
  clear hf
  refine goE 2 [] [37, 36, 8, 6, 4, 2] hs .n ⟨by decide, ?_⟩; clear hs w a; intro a w hs
  refine againG ?_
  refine go 6 [] [10, 9, 37, 36, 8, 6, 4, 2] hs .n ?_; clear hs w a; intro a w hs
  refine wp_drawS [.p [] [], .p [0] [], .x [1] ⟨[], [], [], fun vs14 => vs14 2 = .int .i64 (eb.v2), fun vs14 => [], none⟩, .p [] [], .p [3] [], .p [4] [0], .p [5] [], .p [6] [1], .x [7] ⟨[], [], [], fun vs14 => vs14 8 = .int .i64 (IntKind.i64.wrap (eb.v2 - ea.v2)), fun vs14 => [], none⟩, .p [0] [], .x [9] ⟨[blk g5 [.int .i64 (1), .int .i64 (eb.id), .int .i64 (IntKind.i64.wrap (eb.p0 - ea.p0)), .int .i64 (IntKind.i64.wrap (eb.p1 - ea.p1)), .int .i64 (IntKind.i64.wrap (eb.p2 - ea.p2)), .int .i64 (IntKind.i64.wrap (eb.v0 - ea.v0)), .int .i64 (IntKind.i64.wrap (eb.v1 - ea.v1)), .int .i64 (eb.v2), .int .u16 ((((eb.a).toNat : Nat) : Int))] 78], [], [], fun vs14 => True, fun vs14 => [blk g5 [.int .i64 (1), .int .i64 (eb.id), .int .i64 (IntKind.i64.wrap (eb.p0 - ea.p0)), .int .i64 (IntKind.i64.wrap (eb.p1 - ea.p1)), .int .i64 (IntKind.i64.wrap (eb.p2 - ea.p2)), .int .i64 (IntKind.i64.wrap (eb.v0 - ea.v0)), .int .i64 (IntKind.i64.wrap (eb.v1 - ea.v1)), .int .i64 (IntKind.i64.wrap (eb.v2 - ea.v2)), .int .u16 ((((eb.a).toNat : Nat) : Int))] 78], none⟩] [] hs (.c (.s (.s (.s (.s (.s .z))))) .n) (.c .z (.c .z .n)) (by kernel_rfl) ⟨rfl, rfl, ⟨rfl, by kernel_rfl, fun _ => rfl⟩, ⟨?_, ?_, ?_, trivial⟩, ?_⟩
  ·
   intro a_ w_ R_ rest_ vs14 hm hs ht hx
   have hs0 := hs.bare
   refine st_ldE hs rfl (hm.own (List.mem_append.2 (.inr ((hx 10 (twB_spec 11 _ (by kernel_rfl))).1 _ (List.Mem.head _))))) (.s (.s (.s (.s (.s (.s (.s .z))))))) Tryz.isAgg2 rfl ?_; clear hs; intro a w hs
   exact wpList_nil ⟨rfl, _, _, hs0, (.c .r), hs, rfl⟩
  ·
   intro a_ w_ R_ rest_ vs14 hm hs ht hx
   have t2 := ht 2 (twB_spec 11 _ (by kernel_rfl))
   have e2 : _ = some (vs14 2) := t2.val rfl
   rw [show vs14 2 = .int .i64 (eb.v2) from t2.2.1] at e2
   replace hs := hs.learn e2
   have hs0 := hs.bare
   refine st_sub hs rfl rfl rfl ?_; clear hs; intro a w hs
   exact wpList_nil ⟨rfl, _, _, hs0, (.c (.c .r)), hs, rfl⟩
  ·
   intro a_ w_ R_ rest_ vs14 hm hs ht hx
   have t8 := ht 8 (twB_spec 11 _ (by kernel_rfl))
   have e8 : _ = some (vs14 8) := t8.val rfl
   rw [show vs14 8 = .int .i64 (IntKind.i64.wrap (eb.v2 - ea.v2)) from t8.2.1] at e8
   replace hs := hs.learn e8
   have hs0 := hs.bare
   refine st_stB hs rfl rfl .z (.s (.s (.s (.s (.s (.s (.s .z))))))) rfl Tryz.sizeOf2 ?_; clear hs; intro a w hs
   exact wpList_nil ⟨rfl, .tuple #[], _, hs0, (.c (.c .r)), hs, trivial⟩
  clear hs w a; intro vs14 a w hs hf
  clear hf
  refine goE 2 [] [37, 36, 8, 6, 4, 2] hs .n ⟨by decide, ?_⟩; clear hs w a; intro a w hs
  refine againG ?_
  refine go 6 [0, 1] [55, 53, 6, 4] hs (.c (.s (.s (.s (.s (.s .z))))) (.c (.s (.s .z)) .n)) ⟨rfl, rfl, ?_⟩; clear hs w a; intro a w hs
  refine st_sub_u16 (X := eb.a) (Y := ea.a) hs rfl rfl rfl rfl rfl ?_; clear hs w a; intro a w hs
  refine goL 5 [0, 0, 1] [5, 4] hs (.c .z (.c (.s (.s (.s (.s .z)))) .n)) ⟨rfl, rfl, rfl, ?_⟩; clear hs w a; intro a w hs
  exact finC2 hs rfl rfl rfl (.s .z) (.z (.c (.c (.c (.c (.c (.c (.c (.c (.c .n)))))))))) Tryz.isAgg78 Tryz.sizeOf78 (.c .z (.c .z (.c .z (.c .z (.c .z (.c .z .n)))))) (by first | (rw [recDiff_eq (by assumption)]; exact ⟨rfl, rfl⟩) | (rw [recDiff_upd (by assumption) (by omega)]; exact ⟨rfl, rfl⟩) | (rw [recDiff_tel (by assumption) (by omega)]; exact ⟨rfl, rfl⟩))
 replace c_6 := ne_of_beq_f c_6
 refine go 3 [0, 1] [5, 4] hs (.c .z (.c (.s (.s .z)) .n)) ⟨rfl, rfl, ?_⟩; clear hs w a; intro a w hs
 exact finC2 hs rfl rfl rfl (.s .z) (.z (.c (.c (.c (.c (.c (.c (.c (.c (.c .n)))))))))) Tryz.isAgg78 Tryz.sizeOf78 (.c .z (.c .z (.c .z (.c .z .n)))) (by first | (rw [recDiff_eq (by assumption)]; exact ⟨rfl, rfl⟩) | (rw [recDiff_upd (by assumption) (by omega)]; exact ⟨rfl, rfl⟩) | (rw [recDiff_tel (by assumption) (by omega)]; exact ⟨rfl, rfl⟩))
theorem apply_ok (ea : EntR) (r : RecR) (w0 : World) : Calls Tryz.prog 37 #[.agg #[.int .i64 (ea.id), .int .i64 (ea.p0), .int .i64 (ea.p1), .int .i64 (ea.p2), .int .i64 (ea.v0), .int .i64 (ea.v1), .int .i64 (ea.v2), .int .u16 ((((ea.a).toNat : Nat) : Int)), .int .u8 ((((ea.g).toNat : Nat) : Int))], .agg #[.int .i64 (r.k), .int .i64 (r.id), .int .i64 (r.p0), .int .i64 (r.p1), .int .i64 (r.p2), .int .i64 (r.v0), .int .i64 (r.v1), .int .i64 (r.v2), .int .u16 ((((r.a).toNat : Nat) : Int))]] w0 (RetV w0 (.tuple #[.agg #[.int .i64 (((entApply ea r).1).id), .int .i64 (((entApply ea r).1).p0), .int .i64 (((entApply ea r).1).p1), .int .i64 (((entApply ea r).1).p2), .int .i64 (((entApply ea r).1).v0), .int .i64 (((entApply ea r).1).v1), .int .i64 (((entApply ea r).1).v2), .int .u16 ((((((entApply ea r).1).a).toNat : Nat) : Int)), .int .u8 ((((((entApply ea r).1).g).toNat : Nat) : Int))], .int .i64 (((entApply ea r).2 : Nat) : Int)])) := by
 refine enterG (F0 := [(0, .agg #[.int .i64 (ea.id), .int .i64 (ea.p0), .int .i64 (ea.p1), .int .i64 (ea.p2), .int .i64 (ea.v0), .int .i64 (ea.v1), .int .i64 (ea.v2), .int .u16 ((((ea.a).toNat : Nat) : Int)), .int .u8 ((((ea.g).toNat : Nat) : Int))]), (1, .agg #[.int .i64 (r.k), .int .i64 (r.id), .int .i64 (r.p0), .int .i64 (r.p1), .int .i64 (r.p2), .int .i64 (r.v0), .int .i64 (r.v1), .int .i64 (r.v2), .int .u16 ((((r.a).toNat : Nat) : Int))])]) Tryz.func37 rfl rfl rfl (.c (.c .n)) (Mem.nil _) fun a w hs => ?_
 refine go 5 [0, 0, 1] [8, 4, 3, 2] hs .n (fun g1 => fun g2 => fun g3 => ⟨rfl, ?_⟩); clear hs w a; intro a w hs
 refine st_callP (v := .int .i64 (((recChk r : Nat) : Int))) hs (.c rfl .n) Tryz.call63 (chk_ok r _) rfl ?_; clear hs w a; intro a w hs
 refine goL 3 [] [11, 6, 4, 3, 2] hs .n ?_; clear hs w a; intro a w hs
 refine ifG hs rfl (fun c_4 => ?_) (fun c_4 => ?_)
 ·
  replace c_4 := not_t c_4
  replace c_4 := ne_of_beq_f c_4
  refine go 4 [0] [5, 4] hs (.c .z .n) ⟨rfl, ?_⟩; clear hs w a; intro a w hs
  exact finC2 hs rfl rfl rfl .z (.z (.c (.c (.c (.c (.c (.c (.c (.c (.c .n)))))))))) Tryz.isAgg73 Tryz.sizeOf73 (.c .z (.c .z (.c .z .n))) (by first | (rw [entApply_chk (by omega)]; exact ⟨rfl, rfl⟩) | (rw [entApply_no (by omega) (by omega)]; exact ⟨rfl, rfl⟩) | (rw [entApply_tel (by omega) (by omega) (by omega)]; exact ⟨rfl, rfl⟩) | (rw [entApply_upd (by omega) (by omega) (by omega)]; exact ⟨rfl, rfl⟩))
 replace c_4 := not_f c_4
 replace c_4 := eq_of_beq c_4
 refine go 6 [0, 1] [20, 4, 3, 2] hs (.c (.s .z) (.c (.s .z) .n)) ⟨rfl, rfl, ?_⟩; clear hs w a; intro a w hs
 refine st_part (b := !((r.id : Int) == ea.id)) (fun c_5 => ?_) (fun c_5 => ?_)
 ·
  rw [c_5] at hs
  replace c_5 := not_t c_5
  replace c_5 := ne_of_beq_f c_5
  refine go 14 [0] [5, 4] hs (.c (.s (.s .z)) .n) ⟨rfl, ?_⟩; clear hs w a; intro a w hs
  exact finC2 hs rfl rfl rfl .z (.z (.c (.c (.c (.c (.c (.c (.c (.c (.c .n)))))))))) Tryz.isAgg73 Tryz.sizeOf73 (.c .z (.c .z (.c .z .n))) (by first | (rw [entApply_chk (by omega)]; exact ⟨rfl, rfl⟩) | (rw [entApply_no (by omega) (by omega)]; exact ⟨rfl, rfl⟩) | (rw [entApply_tel (by omega) (by omega) (by omega)]; exact ⟨rfl, rfl⟩) | (rw [entApply_upd (by omega) (by omega) (by omega)]; exact ⟨rfl, rfl⟩))
 rw [c_5] at hs
 replace c_5 := not_f c_5
 replace c_5 := eq_of_beq c_5
 refine go 5 [0] [25, 4, 3, 2] hs (.c .z .n) ⟨rfl, ?_⟩; clear hs w a; intro a w hs
 refine st_part (b := (r.k : Int) == 0) (fun c_6 => ?_) (fun c_6 => ?_)
 ·
  rw [c_6] at hs
  replace c_6 := eq_of_beq c_6
  refine go 9 [0] [5, 4] hs (.c (.s (.s .z)) .n) ⟨rfl, ?_⟩; clear hs w a; intro a w hs
  exact finC2 hs rfl rfl rfl .z (.z (.c (.c (.c (.c (.c (.c (.c (.c (.c .n)))))))))) Tryz.isAgg73 Tryz.sizeOf73 (.c .z (.c .z (.c .z .n))) (by first | (rw [entApply_chk (by omega)]; exact ⟨rfl, rfl⟩) | (rw [entApply_no (by omega) (by omega)]; exact ⟨rfl, rfl⟩) | (rw [entApply_tel (by omega) (by omega) (by omega)]; exact ⟨rfl, rfl⟩) | (rw [entApply_upd (by omega) (by omega) (by omega)]; exact ⟨rfl, rfl⟩))
 rw [c_6] at hs
 replace c_6 := ne_of_beq_f c_6
 refine go 5 [0] [14, 4, 3, 2] hs (.c .z .n) ⟨rfl, ?_⟩; clear hs w a; intro a w hs
 refine ifG hs rfl (fun c_7 => ?_) (fun c_7 => ?_)
 ·
  replace c_7 := eq_of_beq c_7
  refine go 3 [0] [5, 4] hs (.c (.s (.s .z)) .n) ⟨rfl, ?_⟩; clear hs w a; intro a w hs
  exact finC2 hs rfl rfl rfl .z (.z (.c (.c (.c (.c (.c (.c (.c (.c (.c .n)))))))))) Tryz.isAgg73 Tryz.sizeOf73 (.c .z (.c .z (.c .z .n))) (by first | (rw [entApply_chk (by omega)]; exact ⟨rfl, rfl⟩) | (rw [entApply_no (by omega) (by omega)]; exact ⟨rfl, rfl⟩) | (rw [entApply_tel (by omega) (by omega) (by omega)]; exact ⟨rfl, rfl⟩) | (rw [entApply_upd (by omega) (by omega) (by omega)]; exact ⟨rfl, rfl⟩))
 replace c_7 := ne_of_beq_f c_7
 refine go 4 [0] [31, 4, 3, 2] hs (.c .z .n) ⟨rfl, ?_⟩; clear hs w a; intro a w hs
 refine ifG hs rfl (fun c_8 => ?_) (fun c_8 => ?_)
 ·
  replace c_8 := eq_of_beq c_8
  refine go 10 [0, 1, 1, 1, 0] [44, 42, 40, 38, 36, 4] hs (.c (.s .z) (.c .z .n)) ⟨rfl, rfl, rfl, rfl, rfl, ?_⟩; clear hs w a; intro a w hs
  refine st_add_u8 (X := ea.g) (Y := 1#8) hs rfl rfl rfl (by decide) rfl ?_; clear hs w a; intro a w hs
  refine goL 3 [0] [5, 4] hs (.c (.s (.s .z)) .n) ⟨rfl, ?_⟩; clear hs w a; intro a w hs
  exact finC2 hs rfl rfl rfl .z (.z (.c (.c (.c (.c (.c (.c (.c (.c (.c .n)))))))))) Tryz.isAgg73 Tryz.sizeOf73 (.c .z (.c .z (.c .z .n))) (by first | (rw [entApply_chk (by omega)]; exact ⟨rfl, rfl⟩) | (rw [entApply_no (by omega) (by omega)]; exact ⟨rfl, rfl⟩) | (rw [entApply_tel (by omega) (by omega) (by omega)]; exact ⟨rfl, rfl⟩) | (rw [entApply_upd (by omega) (by omega) (by omega)]; exact ⟨rfl, rfl⟩))
 replace c_8 := ne_of_beq_f c_8
 refine go 1 [] [47, 4, 3, 2] hs .n ?_; clear hs w a; intro a w hs
 refine roundsG 3 ?_
 refine go 4 [] [7, 47, 4, 3, 2] hs .n ?_; clear hs w a; intro a w hs
 refine wp_drawS [.p [] [], .p [] [], .p [1, 0] [], .x [2] ⟨[], [], [], fun vs9 => vs9 3 = .int .i64 (ea.p0), fun vs9 => [], none⟩, .p [] [], .p [] [], .p [5, 4] [], .p [6] [0], .x [7] ⟨[], [], [], fun vs9 => vs9 8 = .int .i64 (IntKind.i64.wrap (ea.p0 + r.p0)), fun vs9 => [], none⟩, .p [] [], .p [9, 0] [], .x [10] ⟨[blk g1 [.int .i64 (ea.id), .int .i64 (ea.p0), .int .i64 (ea.p1), .int .i64 (ea.p2), .int .i64 (ea.v0), .int .i64 (ea.v1), .int .i64 (ea.v2), .int .u16 ((((ea.a).toNat : Nat) : Int)), .int .u8 ((((ea.g).toNat : Nat) : Int))] 73], [], [], fun vs9 => True, fun vs9 => [blk g1 [.int .i64 (ea.id), .int .i64 (IntKind.i64.wrap (ea.p0 + r.p0)), .int .i64 (ea.p1), .int .i64 (ea.p2), .int .i64 (ea.v0), .int .i64 (ea.v1), .int .i64 (ea.v2), .int .u16 ((((ea.a).toNat : Nat) : Int)), .int .u8 ((((ea.g).toNat : Nat) : Int))] 73], none⟩] [] hs (.c (.s .z) .n) (.c .z .n) (by kernel_rfl) ⟨rfl, ⟨rfl, by kernel_rfl, fun _ => rfl⟩, ⟨?_, ?_, ?_, trivial⟩, ?_⟩
 ·
  intro a_ w_ R_ rest_ vs9 hm hs ht hx
  have hs0 := hs.bare
  refine st_ldE hs rfl (hm.own (List.mem_append.2 (.inr ((hx 11 (twB_spec 12 _ (by kernel_rfl))).1 _ (List.Mem.head _))))) (.s .z) Tryz.isAgg2 rfl ?_; clear hs; intro a w hs
  exact wpList_nil ⟨rfl, _, _, hs0, (.c .r), hs, rfl⟩
 ·
  intro a_ w_ R_ rest_ vs9 hm hs ht hx
  have t3 := ht 3 (twB_spec 12 _ (by kernel_rfl))
  have e3 : _ = some (vs9 3) := t3.val rfl
  rw [show vs9 3 = .int .i64 (ea.p0) from t3.2.1] at e3
  replace hs := hs.learn e3
  have hs0 := hs.bare
  refine st_add hs rfl rfl rfl ?_; clear hs; intro a w hs
  exact wpList_nil ⟨rfl, _, _, hs0, (.c (.c .r)), hs, rfl⟩
 ·
  intro a_ w_ R_ rest_ vs9 hm hs ht hx
  have t8 := ht 8 (twB_spec 12 _ (by kernel_rfl))
  have e8 : _ = some (vs9 8) := t8.val rfl
  rw [show vs9 8 = .int .i64 (IntKind.i64.wrap (ea.p0 + r.p0)) from t8.2.1] at e8
  replace hs := hs.learn e8
  have hs0 := hs.bare
  refine st_stB hs rfl rfl .z (.s .z) rfl Tryz.sizeOf2 ?_; clear hs; intro a w hs
  exact wpList_nil ⟨rfl, .tuple #[], _, hs0, (.c (.c .r)), hs, trivial⟩
 clear hs w a; intro vs9 a w hs hf
 clear hf
 refine goE 0 [] [7, 47, 4, 3, 2] hs .n ?_; clear hs w a; intro a w hs
 refine wp_drawS [.p [] [], .p [] [], .p [1, 0] [], .x [2] ⟨[], [], [], fun vs10 => vs10 3 = .int .i64 (ea.v0), fun vs10 => [], none⟩, .p [] [], .p [] [], .p [5, 4] [], .p [6] [0], .x [7] ⟨[], [], [], fun vs10 => vs10 8 = .int .i64 (IntKind.i64.wrap (ea.v0 + r.v0)), fun vs10 => [], none⟩, .p [] [], .p [9, 0] [], .x [10] ⟨[blk g1 [.int .i64 (ea.id), .int .i64 (IntKind.i64.wrap (ea.p0 + r.p0)), .int .i64 (ea.p1), .int .i64 (ea.p2), .int .i64 (ea.v0), .int .i64 (ea.v1), .int .i64 (ea.v2), .int .u16 ((((ea.a).toNat : Nat) : Int)), .int .u8 ((((ea.g).toNat : Nat) : Int))] 73], [], [], fun vs10 => True, fun vs10 => [blk g1 [.int .i64 (ea.id), .int .i64 (IntKind.i64.wrap (ea.p0 + r.p0)), .int .i64 (ea.p1), .int .i64 (ea.p2), .int .i64 (IntKind.i64.wrap (ea.v0 + r.v0)), .int .i64 (ea.v1), .int .i64 (ea.v2), .int .u16 ((((ea.a).toNat : Nat) : Int)), .int .u8 ((((ea.g).toNat : Nat) : Int))] 73], none⟩] [] hs (.c (.s (.s .z)) .n) (.c .z .n) (by kernel_rfl) ⟨rfl, ⟨rfl, by kernel_rfl, fun _ => rfl⟩, ⟨?_, ?_, ?_, trivial⟩, ?_⟩
 ·
  intro a_ w_ R_ rest_ vs10 hm hs ht hx
  have hs0 := hs.bare
  refine st_ldE hs rfl (hm.own (List.mem_append.2 (.inr ((hx 11 (twB_spec 12 _ (by kernel_rfl))).1 _ (List.Mem.head _))))) (.s (.s (.s (.s .z)))) Tryz.isAgg2 rfl ?_; clear hs; intro a w hs
  exact wpList_nil ⟨rfl, _, _, hs0, (.c .r), hs, rfl⟩
 ·
  intro a_ w_ R_ rest_ vs10 hm hs ht hx
  have t3 := ht 3 (twB_spec 12 _ (by kernel_rfl))
  have e3 : _ = some (vs10 3) := t3.val rfl
  rw [show vs10 3 = .int .i64 (ea.v0) from t3.2.1] at e3
  replace hs := hs.learn e3
  have hs0 := hs.bare
  refine st_add hs rfl rfl rfl ?_; clear hs; intro a w hs
  exact wpList_nil ⟨rfl, _, _, hs0, (.c (.c .r)), hs, rfl⟩
 ·
  intro a_ w_ R_ rest_ vs10 hm hs ht hx
  have t8 := ht 8 (twB_spec 12 _ (by kernel_rfl))
  have e8 : _ = some (vs10 8) := t8.val rfl
  rw [show vs10 8 = .int .i64 (IntKind.i64.wrap (ea.v0 + r.v0)) from t8.2.1] at e8
  replace hs := hs.learn e8
  have hs0 := hs.bare
  refine st_stB hs rfl rfl .z (.s (.s (.s (.s .z)))) rfl Tryz.sizeOf2 ?_; clear hs; intro a w hs
  exact wpList_nil ⟨rfl, .tuple #[], _, hs0, (.c (.c .r)), hs, trivial⟩
 clear hs w a; intro vs10 a w hs hf
 clear hf
 refine goE 2 [] [47, 4, 3, 2] hs .n ⟨by decide, ?_⟩; clear hs w a; intro a w hs
 refine againG ?_
 refine go 4 [] [7, 47, 4, 3, 2] hs .n ?_; clear hs w a; intro a w hs
 refine wp_drawS [.p [] [], .p [] [], .p [1, 0] [], .x [2] ⟨[], [], [], fun vs11 => vs11 3 = .int .i64 (ea.p1), fun vs11 => [], none⟩, .p [] [], .p [] [], .p [5, 4] [], .p [6] [0], .x [7] ⟨[], [], [], fun vs11 => vs11 8 = .int .i64 (IntKind.i64.wrap (ea.p1 + r.p1)), fun vs11 => [], none⟩, .p [] [], .p [9, 0] [], .x [10] ⟨[blk g1 [.int .i64 (ea.id), .int .i64 (IntKind.i64.wrap (ea.p0 + r.p0)), .int .i64 (ea.p1), .int .i64 (ea.p2), .int .i64 (IntKind.i64.wrap (ea.v0 + r.v0)), .int .i64 (ea.v1), .int .i64 (ea.v2), .int .u16 ((((ea.a).toNat : Nat) : Int)), .int .u8 ((((ea.g).toNat : Nat) : Int))] 73], [], [], fun vs11 => True, fun vs11 => [blk g1 [.int .i64 (ea.id), .int .i64 (IntKind.i64.wrap (ea.p0 + r.p0)), .int .i64 (IntKind.i64.wrap (ea.p1 + r.p1)), .int .i64 (ea.p2), .int .i64 (IntKind.i64.wrap (ea.v0 + r.v0)), .int .i64 (ea.v1), .int .i64 (ea.v2), .int .u16 ((((ea.a).toNat : Nat) : Int)), .int .u8 ((((ea.g).toNat : Nat) : Int))] 73], none⟩] [] hs (.c (.s (.s .z)) .n) (.c .z .n) (by kernel_rfl) ⟨rfl, ⟨rfl, by kernel_rfl, fun _ => rfl⟩, ⟨?_, ?_, ?_, trivial⟩, ?_⟩
 ·
  intro a_ w_ R_ rest_ vs11 hm hs ht hx
  have hs0 := hs.bare
  refine st_ldE hs rfl (hm.own (List.mem_append.2 (.inr ((hx 11 (twB_spec 12 _ (by kernel_rfl))).1 _ (List.Mem.head _))))) (.s (.s .z)) Tryz.isAgg2 rfl ?_; clear hs; intro a w hs
  exact wpList_nil ⟨rfl, _, _, hs0, (.c .r), hs, rfl⟩
 ·
  intro a_ w_ R_ rest_ vs11 hm hs ht hx
  have t3 := ht 3 (twB_spec 12 _ (by kernel_rfl))
  have e3 : _ = some (vs11 3) := t3.val rfl
  rw [show vs11 3 = .int .i64 (ea.p1) from t3.2.1] at e3
  replace hs := hs.learn e3
  have hs0 := hs.bare
  refine st_add hs rfl rfl rfl ?_; clear hs; intro a w hs
  exact wpList_nil ⟨rfl, _, _, hs0, (.c (.c .r)), hs, rfl⟩
 ·
  intro a_ w_ R_ rest_ vs11 hm hs ht hx
  have t8 := ht 8 (twB_spec 12 _ (by kernel_rfl))
  have e8 : _ = some (vs11 8) := t8.val rfl
  rw [show vs11 8 = .int .i64 (IntKind.i64.wrap (ea.p1 + r.p1)) from t8.2.1] at e8
  replace hs := hs.learn e8
  have hs0 := hs.bare
  refine st_stB hs rfl rfl .z (.s (.s .z)) rfl Tryz.sizeOf2 ?_; clear hs; intro a w hs
  exact wpList_nil ⟨rfl, .tuple #[], _, hs0, (.c (.c .r)), hs, trivial⟩
 clear hs w a; intro vs11 a w hs hf
 clear hf
 refine goE 0 [] [7, 47, 4, 3, 2] hs .n ?_; clear hs w a; intro a w hs
 refine wp_drawS [.p [] [], .p [] [], .p [1, 0] [], .x [2] ⟨[], [], [], fun vs12 => vs12 3 = .int .i64 (ea.v1), fun vs12 => [], none⟩, .p [] [], .p [] [], .p [5, 4] [], .p [6] [0], .x [7] ⟨[], [], [], fun vs12 => vs12 8 = .int .i64 (IntKind.i64.wrap (ea.v1 + r.v1)), fun vs12 => [], none⟩, .p [] [], .p [9, 0] [], .x [10] ⟨[blk g1 [.int .i64 (ea.id), .int .i64 (IntKind.i64.wrap (ea.p0 + r.p0)), .int .i64 (IntKind.i64.wrap (ea.p1 + r.p1)), .int .i64 (ea.p2), .int .i64 (IntKind.i64.wrap (ea.v0 + r.v0)), .int .i64 (ea.v1), .int .i64 (ea.v2), .int .u16 ((((ea.a).toNat : Nat) : Int)), .int .u8 ((((ea.g).toNat : Nat) : Int))] 73], [], [], fun vs12 => True, fun vs12 => [blk g1 [.int .i64 (ea.id), .int .i64 (IntKind.i64.wrap (ea.p0 + r.p0)), .int .i64 (IntKind.i64.wrap (ea.p1 + r.p1)), .int .i64 (ea.p2), .int .i64 (IntKind.i64.wrap (ea.v0 + r.v0)), .int .i64 (IntKind.i64.wrap (ea.v1 + r.v1)), .int .i64 (ea.v2), .int .u16 ((((ea.a).toNat : Nat) : Int)), .int .u8 ((((ea.g).toNat : Nat) : Int))] 73], none⟩] [] hs (.c (.s (.s .z)) .n) (.c .z .n) (by kernel_rfl) ⟨rfl, ⟨rfl, by kernel_rfl, fun _ => rfl⟩, ⟨?_, ?_, ?_, trivial⟩, ?_⟩
 ·
  intro a_ w_ R_ rest_ vs12 hm hs ht hx
  have hs0 := hs.bare
  refine st_ldE hs rfl (hm.own (List.mem_append.2 (.inr ((hx 11 (twB_spec 12 _ (by kernel_rfl))).1 _ (List.Mem.head _))))) (.s (.s (.s (.s (.s .z))))) Tryz.isAgg2 rfl ?_; clear hs; intro a w hs
  exact wpList_nil ⟨rfl, _, _, hs0, (.c .r), hs, rfl⟩
 ·
  intro a_ w_ R_ rest_ vs12 hm hs ht hx
  have t3 := ht 3 (twB_spec 12 _ (by kernel_rfl))
  have e3 : _ = some (vs12 3) := t3.val rfl
  rw [show vs12 3 = .int .i64 (ea.v1) from t3.2.1] at e3
  replace hs := hs.learn e3
  have hs0 := hs.bare
  refine st_add hs rfl rfl rfl ?_; clear hs; intro a w hs
  exact wpList_nil ⟨rfl, _, _, hs0, (.c (.c .r)), hs, rfl⟩
 ·
  intro a_ w_ R_ rest_ vs12 hm hs ht hx
  have t8 := ht 8 (twB_spec 12 _ (by kernel_rfl))
  have e8 : _ = some (vs12 8) := t8.val rfl
  rw [show vs12 8 = .int .i64 (IntKind.i64.wrap (ea.v1 + r.v1)) from t8.2.1] at e8
  replace hs := hs.learn e8
  have hs0 := hs.bare
  refine st_stB hs rfl rfl .z (.s (.s (.s (.s (.s .z))))) rfl Tryz.sizeOf2 ?_; clear hs; intro a w hs
  exact wpList_nil ⟨rfl, .tuple #[], _, hs0, (.c (.c .r)), hs, trivial⟩
 clear hs w a; intro vs12 a w hs hf
 clear hf
 refine goE 2 [] [47, 4, 3, 2] hs .n ⟨by decide, ?_⟩; clear hs w a; intro a w hs
 refine againG ?_
 refine go 4 [] [7, 47, 4, 3, 2] hs .n ?_; clear hs w a; intro a w hs
 refine wp_drawS [.p [] [], .p [] [], .p [1, 0] [], .x [2] ⟨[], [], [], fun vs13 => vs13 3 = .int .i64 (ea.p2), fun vs13 => [], none⟩, .p [] [], .p [] [], .p [5, 4] [], .p [6] [0], .x [7] ⟨[], [], [], fun vs13 => vs13 8 = .int .i64 (IntKind.i64.wrap (ea.p2 + r.p2)), fun vs13 => [], none⟩, .p [] [], .p [9, 0] [], .x [10] ⟨[blk g1 [.int .i64 (ea.id), .int .i64 (IntKind.i64.wrap (ea.p0 + r.p0)), .int .i64 (IntKind.i64.wrap (ea.p1 + r.p1)), .int .i64 (ea.p2), .int .i64 (IntKind.i64.wrap (ea.v0 + r.v0)), .int .i64 (IntKind.i64.wrap (ea.v1 + r.v1)), .int .i64 (ea.v2), .int .u16 ((((ea.a).toNat : Nat) : Int)), .int .u8 ((((ea.g).toNat : Nat) : Int))] 73], [], [], fun vs13 => True, fun vs13 => [blk g1 [.int .i64 (ea.id), .int .i64 (IntKind.i64.wrap (ea.p0 + r.p0)), .int .i64 (IntKind.i64.wrap (ea.p1 + r.p1)), .int .i64 (IntKind.i64.wrap (ea.p2 + r.p2)), .int .i64 (IntKind.i64.wrap (ea.v0 + r.v0)), .int .i64 (IntKind.i64.wrap (ea.v1 + r.v1)), .int .i64 (ea.v2), .int .u16 ((((ea.a).toNat : Nat) : Int)), .int .u8 ((((ea.g).toNat : Nat) : Int))] 73], none⟩] [] hs (.c (.s (.s .z)) .n) (.c .z .n) (by kernel_rfl) ⟨rfl, ⟨rfl, by kernel_rfl, fun _ => rfl⟩, ⟨?_, ?_, ?_, trivial⟩, ?_⟩
 ·
  intro a_ w_ R_ rest_ vs13 hm hs ht hx
  have hs0 := hs.bare
  refine st_ldE hs rfl (hm.own (List.mem_append.2 (.inr ((hx 11 (twB_spec 12 _ (by kernel_rfl))).1 _ (List.Mem.head _))))) (.s (.s (.s .z))) Tryz.isAgg2 rfl ?_; clear hs; intro a w hs
  exact wpList_nil ⟨rfl, _, _, hs0, (.c .r), hs, rfl⟩
 ·
  intro a_ w_ R_ rest_ vs13 hm hs ht hx
  have t3 := ht 3 (twB_spec 12 _ (by kernel_rfl))
  have e3 : _ = some (vs13 3) := t3.val rfl
  rw [show vs13 3 = .int .i64 (ea.p2) from t3.2.1] at e3
  replace hs := hs.learn e3
  have hs0 := hs.bare
  refine st_add hs rfl rfl rfl ?_; clear hs; intro a w hs
  exact wpList_nil ⟨rfl, _, _, hs0, (.c (.c .r)), hs, rfl⟩
 ·
  intro a_ w_ R_ rest_ vs13 hm hs ht hx
  have t8 := ht 8 (twB_spec 12 _ (by kernel_rfl))
  have e8 : _ = some (vs13 8) := t8.val rfl
  rw [show vs13 8 = .int .i64 (IntKind.i64.wrap (ea.p2 + r.p2)) from t8.2.1] at e8
  replace hs := hs.learn e8
  have hs0 := hs.bare
  refine st_stB hs rfl rfl .z (.s (.s (.s .z))) rfl Tryz.sizeOf2 ?_; clear hs; intro a w hs
  exact wpList_nil ⟨rfl, .tuple #[], _, hs0, (.c (.c .r)), hs, trivial⟩
 clear hs w a; intro vs13 a w hs hf
 clear hf
 refine goE 0 [] [7, 47, 4, 3, 2] hs .n ?_; clear hs w a; intro a w hs
 refine wp_drawS [.p [] [], .p [] [], .p [1, 0] [], .x [2] ⟨[], [], [], fun vs14 => vs14 3 = .int .i64 (ea.v2), fun vs14 => [], none⟩, .p [] [], .p [] [], .p [5, 4] [], .p [6] [0], .x [7] ⟨[], [], [], fun vs14 => vs14 8 = .int .i64 (IntKind.i64.wrap (ea.v2 + r.v2)), fun vs14 => [], none⟩, .p [] [], .p [9, 0] [], .x [10] ⟨[blk g1 [.int .i64 (ea.id), .int .i64 (IntKind.i64.wrap (ea.p0 + r.p0)), .int .i64 (IntKind.i64.wrap (ea.p1 + r.p1)), .int .i64 (IntKind.i64.wrap (ea.p2 + r.p2)), .int .i64 (IntKind.i64.wrap (ea.v0 + r.v0)), .int .i64 (IntKind.i64.wrap (ea.v1 + r.v1)), .int .i64 (ea.v2), .int .u16 ((((ea.a).toNat : Nat) : Int)), .int .u8 ((((ea.g).toNat : Nat) : Int))] 73], [], [], fun vs14 => True, fun vs14 => [blk g1 [.int .i64 (ea.id), .int .i64 (IntKind.i64.wrap (ea.p0 + r.p0)), .int .i64 (IntKind.i64.wrap (ea.p1 + r.p1)), .int .i64 (IntKind.i64.wrap (ea.p2 + r.p2)), .int .i64 (IntKind.i64.wrap (ea.v0 + r.v0)), .int .i64 (IntKind.i64.wrap (ea.v1 + r.v1)), .int .i64 (IntKind.i64.wrap (ea.v2 + r.v2)), .int .u16 ((((ea.a).toNat : Nat) : Int)), .int .u8 ((((ea.g).toNat : Nat) : Int))] 73], none⟩] [] hs (.c (.s (.s .z)) .n) (.c .z .n) (by kernel_rfl) ⟨rfl, ⟨rfl, by kernel_rfl, fun _ => rfl⟩, ⟨?_, ?_, ?_, trivial⟩, ?_⟩
 ·
  intro a_ w_ R_ rest_ vs14 hm hs ht hx
  have hs0 := hs.bare
  refine st_ldE hs rfl (hm.own (List.mem_append.2 (.inr ((hx 11 (twB_spec 12 _ (by kernel_rfl))).1 _ (List.Mem.head _))))) (.s (.s (.s (.s (.s (.s .z)))))) Tryz.isAgg2 rfl ?_; clear hs; intro a w hs
  exact wpList_nil ⟨rfl, _, _, hs0, (.c .r), hs, rfl⟩
 ·
  intro a_ w_ R_ rest_ vs14 hm hs ht hx
  have t3 := ht 3 (twB_spec 12 _ (by kernel_rfl))
  have e3 : _ = some (vs14 3) := t3.val rfl
  rw [show vs14 3 = .int .i64 (ea.v2) from t3.2.1] at e3
  replace hs := hs.learn e3
  have hs0 := hs.bare
  refine st_add hs rfl rfl rfl ?_; clear hs; intro a w hs
  exact wpList_nil ⟨rfl, _, _, hs0, (.c (.c .r)), hs, rfl⟩
 ·
  intro a_ w_ R_ rest_ vs14 hm hs ht hx
  have t8 := ht 8 (twB_spec 12 _ (by kernel_rfl))
  have e8 : _ = some (vs14 8) := t8.val rfl
  rw [show vs14 8 = .int .i64 (IntKind.i64.wrap (ea.v2 + r.v2)) from t8.2.1] at e8
  replace hs := hs.learn e8
  have hs0 := hs.bare
  refine st_stB hs rfl rfl .z (.s (.s (.s (.s (.s (.s .z)))))) rfl Tryz.sizeOf2 ?_; clear hs; intro a w hs
  exact wpList_nil ⟨rfl, .tuple #[], _, hs0, (.c (.c .r)), hs, trivial⟩
 clear hs w a; intro vs14 a w hs hf
 clear hf
 refine goE 2 [] [47, 4, 3, 2] hs .n ⟨by decide, ?_⟩; clear hs w a; intro a w hs
 refine againG ?_
 refine go 6 [0, 1] [76, 74, 4, 2] hs (.c (.s (.s .z)) (.c .z .n)) ⟨rfl, rfl, ?_⟩; clear hs w a; intro a w hs
 refine st_add_u16 (X := ea.a) (Y := r.a) hs rfl rfl rfl rfl rfl ?_; clear hs w a; intro a w hs
 refine goL 5 [0, 0, 1] [5, 4] hs (.c .z (.c (.s .z) .n)) ⟨rfl, rfl, rfl, ?_⟩; clear hs w a; intro a w hs
 exact finC2 hs rfl rfl rfl (.s .z) (.z (.c (.c (.c (.c (.c (.c (.c (.c (.c .n)))))))))) Tryz.isAgg73 Tryz.sizeOf73 (.c .z (.c .z (.c .z .n))) (by first | (rw [entApply_chk (by omega)]; exact ⟨rfl, rfl⟩) | (rw [entApply_no (by omega) (by omega)]; exact ⟨rfl, rfl⟩) | (rw [entApply_tel (by omega) (by omega) (by omega)]; exact ⟨rfl, rfl⟩) | (rw [entApply_upd (by omega) (by omega) (by omega)]; exact ⟨rfl, rfl⟩))
end Go.Proofs.YtbioemaipghagaaGreat
