/- Walks of iterators and sorts: what each function does, over the program of this seat. Printed by a program of this session. -/
import Derived.Test.YtbacobmcfelmkaaGreatQWshelf
import Derived.Test.YtbacobmcfelmkaaGreatQSxStos
import Derived.Test.YtbacobmcfelmkaaGreatQSxSort
import Derived.Test.YtbacobmcfelmkaaGreatQSxBasB
import Derived.Test.YtbacobmcfelmkaaGreatProg
namespace Go.Proofs.YtbacobmcfelmkaaGreat
open Tryz
open Go Go.Sx Go.RowKit Go.Lib Go.Sort
set_option linter.unusedVariables false
set_option linter.unusedSimpArgs false
set_option maxRecDepth 4000
set_option maxHeartbeats 1000000

theorem zNh (x y : zAU) (W : World) : Calls Tryz.prog 54 #[.agg #[zI x.id, zI x.p0, zI x.p1, zI x.p2, zI x.v0, zI x.v1, zI x.v2, .int .u16 (((x.a).toNat : Nat) : Int), bI x.g], .agg #[zI y.id, zI y.p0, zI y.p1, zI y.p2, zI y.v0, zI y.v1, zI y.v2, .int .u16 (((y.a).toNat : Nat) : Int), bI y.g]] W fun e w' => e = .returned (zI (Lib.compareInt x.id y.id)) ∧ ∃ q os', w' = Sort.grow (W.drewN q) os' := by
 have hcon := fun W' => AnyG.cmp_Compare_int Tryz.cmpInt x.id y.id W'
 change ∀ W', Calls Tryz.prog 55 _ _ _ at hcon
 generalize Lib.compareInt x.id y.id = r at hcon ⊢
 go_enter func54, Tryz.ntmps54
 go_wp2_with (go_at_call 55; refine (hcon _).mono ?_; rintro e w' ⟨rfl, rfl⟩)
 go_ret
 exact ⟨rfl, 0, _, by rw [alloc_eq_grow, alloc_eq_grow, grow_grow]; rfl⟩
theorem zRB {w : World} {v : Value} {m : Nat} {l : List zAU} (hr : (row v 72 9 m (l.flatMap zBQ)).p w) (hl : l.length = m) (hm : m ≤ 1000000) : Calls Tryz.prog 83 #[v, .func (.func 54) #[] #[]] w (Ret w (zX [row v 72 9 m (l.flatMap zBQ)]) fun u N => u = .tuple #[] ∧ ∃ l' : List zAU, (l'.Perm l ∧ l'.Pairwise (fun x y => x.id ≤ y.id)) ∧ N = [row v 72 9 m (l'.flatMap zBQ)]) := by
 have h := zUX (α := zAU) Tryz.sortE 9 isAgg72 sizeOf72 zBQ zBN (fun x u hu => by simp only [zBQ, List.mem_cons, List.not_mem_nil, or_false] at hu; rcases hu with rfl | rfl | rfl | rfl | rfl | rfl | rfl | rfl | rfl <;> rfl) (fun x y : zAU => Lib.compareInt x.id y.id) (zTR (fun x : zAU => x.id)) 54 call54 (fun W x y => zNh x y W) hr hl hm
 change Calls Tryz.prog 83 _ _ _ at h
 refine h.mono ?_
 rintro e w' ⟨u, N, rfl, ⟨rfl, l', hp, hs, rfl⟩, hM⟩
 refine ⟨_, _, rfl, ⟨rfl, l', ⟨hp, hs.imp fun h => ?_⟩, rfl⟩, hM⟩
 rw [zMp] at h
 simp only [decide_eq_false_iff_not] at h
 omega
theorem zTA (g bx L : Nat) (l : List zAU) (R : List zAU → HA → Prop) (X : HA) (w0 : World) (hg : (mpr g (ekv l)).p w0) (hb : (blk bx [.map (some g)] 108).p w0) (hX : X.p w0) (hR : R [] X) (hnd : (zX [mpr g (ekv l), blk bx [.map (some g)] 108, X]).Nodup) (hy : zJa Tryz.prog L l R) : Calls Tryz.prog 84 #[.func (.yield L) #[] #[], pt bx 0] w0 (Ret w0 (zX [mpr g (ekv l), blk bx [.map (some g)] 108, X]) fun u N => ∃ done X', done.Perm l ∧ R done X' ∧ N = [mpr g (ekv l), blk bx [.map (some g)] 108, X']) := by
 refine enter (F0 := [(0, .func (.yield L) #[] #[]), (1, pt bx 0)]) func84 rfl rfl rfl (.c (.c .n)) (zQB hg hb hX hnd) fun a w hs => ?_
 refine wp_seq_k fun K1 hK2 => ?_
 refine wp_region_lit ?_
 refine zSU hs rfl (.s .z) .z isAgg108 rfl ?_; clear hs w a; intro a w hs
 refine zPv hs rfl .z underlying108 rfl ?_; clear hs w a; intro it3 a w hs
 refine wpList_nil ?_
 refine zEk (hK2 _ _ ?_)
 refine wp_block ?_
 refine zMk (fun mm_ a w => ∃ done : List zAU, ∃ Y : HA, mm_ = l.length - done.length ∧ St 15 [(0, .func (.yield L) #[] #[]), (1, pt bx 0), (6, pt it3 0)] w0 (zX [mpr g (ekv l), blk bx [.map (some g)] 108, X]) [mit g it3 (ekv l) (ekv done), blk bx [.map (some g)] 108, Y] a w ∧ R done Y) ⟨[], X, rfl, hs.sub (.c rfl (.c rfl (.c rfl .n))), hR⟩ ?_
 clear hs w a; rintro mm_ a w ⟨done, Y, rfl, hs, hI1_0⟩
 refine wp_seq_k fun K4 hK5 => ?_
 refine wp_region_lit ?_
 refine zQh hs rfl .z rfl (fun hp6 => ?_) (fun x7 hm8 hl9 => ?_)
 ·
  clear hs w a; intro a w hs
  refine zNi hs rfl .z rfl ?_; clear hs w a; intro a w hs
  refine wpList_nil ?_
  refine zEk (hK5 _ _ ?_)
  refine wp_seq_k fun K10 hK11 => ?_
  refine wp_cond_false (hs.ev rfl) ?_
  refine wp_exit ?_
  refine zVy ?_
  refine zVy ?_
  refine zST ?_
  replace hs := hs.mback .z
  exact zHE hs rfl ⟨_, _, hp6, hI1_0, rfl⟩
 clear hs w a; intro a w hs
 refine zNi hs rfl .z rfl ?_; clear hs w a; intro a w hs
 refine wpList_nil ?_
 refine zEk (hK5 _ _ ?_)
 refine wp_seq_k fun K12 hK13 => ?_
 refine wp_cond_true (hs.ev rfl) ?_
 refine wp_skip ?_
 refine zEk (hK13 _ _ ?_)
 refine wp_block ?_
 refine wp_seq_k fun K14 hK15 => ?_
 refine wp_region_lit ?_
 refine zPf hs rfl .z rfl ?_; clear hs w a; intro a w hs
 refine zNi hs rfl (.s .z) rfl ?_; clear hs w a; intro a w hs
 refine zEG (cs := [zI 0, zI 0, zI 0, zI 0, zI 0, zI 0, zI 0, .int .u16 (0), .int .u8 (0)]) hs zeroValue72 rfl rfl ?_; clear hs w a; intro g16 a w hs
 refine zA4 hs rfl rfl .z (.z (.c (.c (.c (.c (.c (.c (.c (.c (.c .n)))))))))) (zN rfl (zN rfl (zN rfl (zN rfl (zN rfl (zN rfl (zN rfl (zN rfl (zN rfl zBS))))))))) sizeOf72 rfl ?_; clear hs w a; intro a w hs
 refine wpList_nil ?_
 refine zEk (hK15 _ _ ?_)
 refine wp_seq_k fun K17 hK18 => ?_
 refine (wpIn_wide (n := 1)).1 (wpIn_region_lit (zIv (l1 := [_, _]) (r := none) (fun _ _ h => by obtain ⟨_, _, h, _⟩ := h; cases h) _ _ (zEI rfl) ?_))
 refine zTQ hs rfl rfl ?_; clear hs w a; intro a w hs
 refine zPC hs rfl .z (.z (.c (.c (.c (.c (.c (.c (.c (.c (.c .n)))))))))) isAgg72 sizeOf72 rfl ?_; clear hs w a; intro a w hs
 refine wpList_nil ?_
 show wpListIn _ _ _ _ _ _ _ _
 refine zRz (X := [Y]) hs rfl (.c rfl .n) (.c (.s (.s (.s .z))) .n) (hy.at hI1_0 hm8 hl9) rfl ?_
 clear hs w a; rintro _ a w ⟨Y2, rfl, hR2⟩ hs; simp only [List.cons_append, List.nil_append] at hs
 refine zSo (fun _ _ h => by obtain ⟨_, _, h, _⟩ := h; cases h) (zEI rfl) ?_
 refine zVa hs rfl rfl ?_; clear hs w a; intro a w hs
 replace hs := hs.recell (v' := .bool (false)) (Option.some.inj rfl)
 refine wpList_nil ?_
 refine zEk (hK18 _ _ ?_)
 refine wp_cond_false (hs.ev rfl) ?_
 refine wp_skip ?_
 refine zV2 ?_
 refine zEk ?_
 replace hs := hs.drop (.c (.s .z) .n)
 replace hs := hs.reorder (.c (.s .z) (.c (.s .z) (.c .z .n)))
 have hal_ : (done ++ [x7]).length = done.length + 1 := by simp
 refine ⟨_, ?_, _, _, rfl, hs.sub (.c rfl (.c rfl (.c rfl .n))), hR2⟩
 omega
theorem zOm (g bx : Nat) (l : List zAU) (w0 : World) (hg : (mpr g (ekv l)).p w0) (hb : (blk bx [.map (some g)] 108).p w0) (hnd : (zX [mpr g (ekv l), blk bx [.map (some g)] 108]).Nodup) (hl : l.length ≤ 100000) : Calls Tryz.prog 104 #[.slice none 0 0, .func (.func 84) #[] #[pt bx 0]] w0 (Ret w0 (zX [mpr g (ekv l), blk bx [.map (some g)] 108]) fun u N => ∃ l' : List zAU, l'.Perm l ∧ N = [row u 72 9 l'.length (l'.flatMap zBQ), mpr g (ekv l), blk bx [.map (some g)] 108]) := by
 refine zVW (F0 := [(0, .slice none 0 0), (1, .func (.func 84) #[] #[pt bx 0])]) func104 rfl rfl rfl (.c (.c .n)) (zDo hg hb hnd) fun a w hs => ?_
 refine wpIn_seq_k fun K1 hK2 => ?_
 refine zHO (fun _ _ h => by obtain ⟨_, _, h, _⟩ := h; cases h) (zEI rfl) ?_
 refine zPN (cs := [.slice none 0 0]) hs rfl rfl rfl ?_; clear hs w a; intro g3 a w hs
 refine zJ1 hs rfl rfl ?_; clear hs w a; intro a w hs
 refine wpList_nil ?_
 refine zEk (hK2 _ _ ?_)
 refine wpIn_seq_k fun K4 hK5 => ?_
 refine wpIn_seq_k fun K6 hK7 => ?_
 refine zHO (fun _ _ h => by obtain ⟨_, _, h, _⟩ := h; cases h) (zEI rfl) ?_
 refine zTQ hs rfl rfl ?_; clear hs w a; intro a w hs
 refine wpList_nil ?_
 refine zEk (hK7 _ _ ?_)
 refine wpIn_block ?_
 replace hs := hs.addNil 72 9
 refine zKc hs rfl call84 (fun fn D L W rec hrec hm => ?_)
 have hm2 := hm.reorder (X := [mpr g (ekv l), blk bx [.map (some g)] 108, row (.slice none 0 0) 72 9 ([] : List zAU).length (([] : List zAU).flatMap zBQ), blk g3 [.slice none 0 0] 43, obj L (.loop (rec .ready)), obj D (.deferred (some []))]) (.c (.s (.s (.s (.s .z)))) (.c (.s (.s (.s (.s .z)))) (.c (.s (.s .z)) (.c (.s (.s .z)) (.c .z (.c .z .n))))))
 obtain ⟨hp1, hp2, hp3⟩ := Mem.parts (A := [mpr g (ekv l), blk bx [.map (some g)] 108]) hm2
 have hy : zJa Tryz.prog L l (fun done X => ∃ v, X = zJN [row v 72 9 done.length (done.flatMap zBQ), blk g3 [v] 43, obj L (.loop (rec .ready)), obj D (.deferred (some []))]) := by
  rintro done x X W1 ⟨v, rfl⟩ hX hn hx hlt
  have hX2 := (zUm hX).reorder (X := [obj L (.loop (rec .ready)), row v 72 9 done.length (done.flatMap zBQ), blk g3 [v] 43, obj D (.deferred (some []))]) (.c (.s (.s .z)) (.c .z (.c .z (.c .z .n))))
  refine zNU (zRW (post := fun N => ∃ v', N = [row v' 72 9 (done ++ [x]).length ((done ++ [x]).flatMap zBQ), blk g3 [v'] 43, obj D (.deferred (some []))]) hs hrec rfl rfl hX2 (fun a w hs => ?_)) ?_
  ·
   refine zHO (fun _ _ h => h) (zEI rfl) ?_
   refine zEG (cs := [zI 0, zI 0, zI 0, zI 0, zI 0, zI 0, zI 0, .int .u16 (0), .int .u8 (0)]) hs zeroValue72 rfl rfl ?_; clear hs w a; intro g8 a w hs
   refine zA4 hs rfl rfl .z (.z (.c (.c (.c (.c (.c (.c (.c (.c (.c .n)))))))))) (zN rfl (zN rfl (zN rfl (zN rfl (zN rfl (zN rfl (zN rfl (zN rfl (zN rfl zBS))))))))) sizeOf72 rfl ?_; clear hs w a; intro a w hs
   refine wpList_nil ?_
   replace hs := hs.reorder (.c (.s .z) (.c .z (.c .z (.c .z (.c .z .n)))))
   refine ⟨_, _, hs, ?_⟩; clear hs; intro w3 hs
   refine wpIn_block (zHO (fun _ _ h => by cases h.1) (zEI rfl) ?_)
   refine zSU hs rfl (.s (.s (.s .z))) .z isAgg43 rfl ?_; clear hs w a; intro a w hs
   refine zPC hs rfl (.s .z) (.z (.c (.c (.c (.c (.c (.c (.c (.c (.c .n)))))))))) isAgg72 sizeOf72 rfl ?_; clear hs w a; intro a w hs
   refine zFv (cs := [zI x.id, zI x.p0, zI x.p1, zI x.p2, zI x.v0, zI x.v1, zI x.v2, .int .u16 (((x.a).toNat : Nat) : Int), bI x.g]) hs (.c .n) (.c rfl .n) underlying43 (ie := Tryz.t72) rfl rfl rfl rfl (by decide) (by decide) rfl (by decide) rfl rfl rfl ?_; clear hs w a; intro g9 a w hs
   refine zAj (size := 9) (bytes := 64) hs rfl rfl (.s (.s (.s .z))) (zAa (m := 1) (size := 9) (hs.mem.del .z) rfl (by decide)) (by simp [Value.oneCell']) underlying43 (i := Tryz.t72) rfl rfl rfl rfl rfl (by decide) (by omega) (by simp only [maxLen]; omega) rfl ?_; clear hs w a; intro v10 a w hs
   replace hs := hs.drop (.c (.s .z) .n)
   refine zB4 hs rfl rfl (.s (.s (.s .z))) .z (zM (hs.mem.del .z)).isSl.one sizeOf43 ?_; clear hs w a; intro a w hs
   replace hs := hs.rerow (.s .z) (m' := (done ++ [x]).length) (xs' := ((done ++ [x]).flatMap zBQ)) (by rw [List.length_append]; rfl) (by rw [List.flatMap_append]; rfl)
   replace hs := hs.drop (.c (.s (.s (.s .z))) .n)
   replace hs := hs.reorder (.c (.s (.s .z)) (.c .z (.c .z (.c .z .n))))
   refine wpList_nil ?_
   exact ⟨rfl, _, ⟨v10, rfl⟩, hs.mem⟩
  rintro e W' ⟨rfl, N, ⟨v', rfl⟩, hM⟩
  exact ⟨rfl, _, ⟨_, rfl, v', rfl⟩, (hM.reorder (.c (.s .z) (.c (.s .z) (.c .z (.c .z .n))))).sep⟩
 refine (zTA g bx L l (fun done X => ∃ v, X = zJN [row v 72 9 done.length (done.flatMap zBQ), blk g3 [v] 43, obj L (.loop (rec .ready)), obj D (.deferred (some []))]) _ W (hp1 _ (by simp)) (hp1 _ (by simp)) hp2 ⟨_, rfl⟩ hp3 hy).mono ?_
 rintro e W' ⟨u, N, rfl, ⟨done, X', hp, ⟨v, rfl⟩, rfl⟩, hM⟩
 have hM2 := hm2.frame (X := [mpr g (ekv l), blk bx [.map (some g)] 108] ++ [row (.slice none 0 0) 72 9 ([] : List zAU).length (([] : List zAU).flatMap zBQ), blk g3 [.slice none 0 0] 43, obj L (.loop (rec .ready)), obj D (.deferred (some []))]) (.c .z (.c .z (.c .z (.c .z (.c .z (.c .z .n)))))) (Mem.unsep2 (A := [mpr g (ekv l), blk bx [.map (some g)] 108]) (A' := [mpr g (ekv l), blk bx [.map (some g)] 108]) hM)
 refine ⟨⟨_, rfl⟩, [row v 72 9 done.length (done.flatMap zBQ), mpr g (ekv l), blk bx [.map (some g)] 108, blk g3 [v] 43], hM2.reorder (.c (.s (.s (.s (.s .z)))) (.c (.s (.s (.s (.s .z)))) (.c (.s (.s .z)) (.c .z (.c .z (.c .z .n)))))), fun W2 hM3 => ?_⟩
 refine zV2 ?_
 refine zEk (hK5 _ _ ?_)
 refine wpIn_seq_k fun K9 hK9 => ?_
 refine wpIn_region_lit ?_
 have hB : W2.heap[g3]? = some (.cells [v].toArray 43 (0, 0)) := hM3.all (blk g3 [v] 43) (by simp)
 have ha2 := hs.agr 2 _ rfl
 have hz := hs.size
 refine zIt (v := v) (w' := W2) rfl (by intro c h; cases h) (zTo (g := g3) (i := 0) (by simp [Act.eval, Array.getD_eq_getD_getElem?, ha2]) hB .z isAgg43) ?_
 refine zIt (v := v) (w' := W2) rfl (by intro c h; cases h) (by simp [execOp, Act.eval, Act.put, Array.getD_eq_getD_getElem?, hz]) ?_
 refine zEk (hK9 _ _ ?_)
 refine wpIn_ret ?_
 rw [hs.dfr]
 refine zUt (v := v) rfl (by simp [Act.put, Array.getD_eq_getD_getElem?, hz]) (hM3.all (obj D (.deferred (some []))) (by simp)) ?_
 have hM4 := (hM3.frame (X := [obj D (.deferred (some []))]) (.c (.s .z) .n) (zJW (o' := .deferred none) (hM3.all (obj D (.deferred (some []))) (by simp)))).drop (X := [obj D (.deferred none), obj L (.loop (rec .exhausted)), blk g3 [v] 43]) (.c .z (.c .z (.c (.s (.s (.s .z))) .n)))
 exact ⟨_, _, rfl, ⟨done, hp, rfl⟩, hM4⟩
end Go.Proofs.YtbacobmcfelmkaaGreat
