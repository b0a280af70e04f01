/- Walks of iterators and sorts: what each function does, over the program of this seat. Printed by a program of this session. -/
import Derived.Test.YtbioemaipghagaaGreatQWshelf
import Derived.Test.YtbioemaipghagaaGreatQSxStos
import Derived.Test.YtbioemaipghagaaGreatQSxSort
import Derived.Test.YtbioemaipghagaaGreatQSxBasB
import Derived.Test.YtbioemaipghagaaGreatProg
namespace Go.Proofs.YtbioemaipghagaaGreat
open Go Go.Sx Go.RowKit Go.Lib Go.Sort
set_option linter.unusedVariables false
set_option linter.unusedSimpArgs false
set_option maxRecDepth 4000
set_option maxHeartbeats 1000000

theorem cmpE_calls (x y : EntR) (W : World) : Calls Tryz.prog 40 #[.agg #[.int .i64 (x.id), .int .i64 (x.p0), .int .i64 (x.p1), .int .i64 (x.p2), .int .i64 (x.v0), .int .i64 (x.v1), .int .i64 (x.v2), .int .u16 ((((x.a).toNat : Nat) : Int)), .int .u8 ((((x.g).toNat : Nat) : Int))], .agg #[.int .i64 (y.id), .int .i64 (y.p0), .int .i64 (y.p1), .int .i64 (y.p2), .int .i64 (y.v0), .int .i64 (y.v1), .int .i64 (y.v2), .int .u16 ((((y.a).toNat : Nat) : Int)), .int .u8 ((((y.g).toNat : Nat) : Int))]] W fun e w' => e = .returned (.int .i64 (Lib.compareInt x.id y.id)) ∧ ∃ q os', w' = Sort.grow (W.drewN q) os' := by
 have hcon := fun W' => AnyG.cmp_Compare_int Tryz.cmpInt x.id y.id W'
 change ∀ W', Calls Tryz.prog 41 _ _ _ at hcon
 generalize Lib.compareInt x.id y.id = r at hcon ⊢
 go_enter Tryz.func40, Tryz.ntmps40
 go_wp2_with (go_at_call 41; refine (hcon _).mono ?_; rintro e w' ⟨rfl, rfl⟩)
 go_ret
 exact ⟨rfl, 0, _, by rw [alloc_eq_grow, alloc_eq_grow, grow_grow]; rfl⟩
theorem cmpR_calls (x y : RecR) (W : World) : Calls Tryz.prog 62 #[.agg #[.int .i64 (x.k), .int .i64 (x.id), .int .i64 (x.p0), .int .i64 (x.p1), .int .i64 (x.p2), .int .i64 (x.v0), .int .i64 (x.v1), .int .i64 (x.v2), .int .u16 ((((x.a).toNat : Nat) : Int))], .agg #[.int .i64 (y.k), .int .i64 (y.id), .int .i64 (y.p0), .int .i64 (y.p1), .int .i64 (y.p2), .int .i64 (y.v0), .int .i64 (y.v1), .int .i64 (y.v2), .int .u16 ((((y.a).toNat : Nat) : Int))]] W fun e w' => e = .returned (.int .i64 (Lib.compareInt x.id y.id)) ∧ ∃ q os', w' = Sort.grow (W.drewN q) os' := by
 have hcon := fun W' => AnyG.cmp_Compare_int Tryz.cmpInt x.id y.id W'
 change ∀ W', Calls Tryz.prog 41 _ _ _ at hcon
 generalize Lib.compareInt x.id y.id = r at hcon ⊢
 go_enter Tryz.func62, Tryz.ntmps62
 go_wp2_with (go_at_call 41; refine (hcon _).mono ?_; rintro e w' ⟨rfl, rfl⟩)
 go_ret
 exact ⟨rfl, 0, _, by rw [alloc_eq_grow, alloc_eq_grow, grow_grow]; rfl⟩
theorem sortE_ok {w : World} {v : Value} {m : Nat} {l : List EntR} (hr : (row v 73 9 m (l.flatMap entV)).p w) (hl : l.length = m) (hm : m ≤ 1000000) : Calls Tryz.prog 65 #[v, .func (.func 40) #[] #[]] w (Ret w (feet [row v 73 9 m (l.flatMap entV)]) fun u N => u = .tuple #[] ∧ ∃ l' : List EntR, (l'.Perm l ∧ l'.Pairwise (fun x y => x.id ≤ y.id)) ∧ N = [row v 73 9 m (l'.flatMap entV)]) := by
 have h := sort_ok (α := EntR) Tryz.sortE 9 Tryz.isAgg73 Tryz.sizeOf73 entV entV_len (fun x u hu => by simp only [entV, List.mem_cons, List.not_mem_nil, or_false] at hu; rcases hu with rfl | rfl | rfl | rfl | rfl | rfl | rfl | rfl | rfl <;> rfl) (fun x y : EntR => Lib.compareInt x.id y.id) (cmp_swo (fun x : EntR => x.id)) 40 Tryz.call40 (fun W x y => cmpE_calls x y W) hr hl hm
 change Calls Tryz.prog 65 _ _ _ at h
 refine h.mono ?_
 rintro e w' ⟨u, N, rfl, ⟨rfl, l', hp, hs, rfl⟩, hM⟩
 refine ⟨_, _, rfl, ⟨rfl, l', ⟨hp, hs.imp fun h => ?_⟩, rfl⟩, hM⟩
 rw [cmp_lt] at h
 simp only [decide_eq_false_iff_not] at h
 omega
theorem sortR_ok {w : World} {v : Value} {m : Nat} {l : List RecR} (hr : (row v 78 9 m (l.flatMap recV)).p w) (hl : l.length = m) (hm : m ≤ 1000000) : Calls Tryz.prog 61 #[v, .func (.func 62) #[] #[]] w (Ret w (feet [row v 78 9 m (l.flatMap recV)]) fun u N => u = .tuple #[] ∧ ∃ l' : List RecR, (l'.Perm l ∧ l'.Pairwise (fun x y => x.id ≤ y.id)) ∧ N = [row v 78 9 m (l'.flatMap recV)]) := by
 have h := sort_ok (α := RecR) Tryz.sortR 9 Tryz.isAgg78 Tryz.sizeOf78 recV recV_len (fun x u hu => by simp only [recV, List.mem_cons, List.not_mem_nil, or_false] at hu; rcases hu with rfl | rfl | rfl | rfl | rfl | rfl | rfl | rfl | rfl <;> rfl) (fun x y : RecR => Lib.compareInt x.id y.id) (cmp_swo (fun x : RecR => x.id)) 62 Tryz.call62 (fun W x y => cmpR_calls x y W) hr hl hm
 change Calls Tryz.prog 61 _ _ _ at h
 refine h.mono ?_
 rintro e w' ⟨u, N, rfl, ⟨rfl, l', hp, hs, rfl⟩, hM⟩
 refine ⟨_, _, rfl, ⟨rfl, l', ⟨hp, hs.imp fun h => ?_⟩, rfl⟩, hM⟩
 rw [cmp_lt] at h
 simp only [decide_eq_false_iff_not] at h
 omega
theorem vals_ok (g bx L : Nat) (l : List EntR) (R : List EntR → HA → Prop) (X : HA) (w0 : World) (hg : (mpr g (ekv l)).p w0) (hb : (blk bx [.map (some g)] 81).p w0) (hX : X.p w0) (hR : R [] X) (hnd : (feet [mpr g (ekv l), blk bx [.map (some g)] 81, X]).Nodup) (hy : YieldsE Tryz.prog L l R) : Calls Tryz.prog 66 #[.func (.yield L) #[] #[], .pointer (some ⟨bx, 0, none⟩)] w0 (Ret w0 (feet [mpr g (ekv l), blk bx [.map (some g)] 81, X]) fun u N => ∃ done X', done.Perm l ∧ R done X' ∧ N = [mpr g (ekv l), blk bx [.map (some g)] 81, X']) := by
 refine enter (F0 := [(0, .func (.yield L) #[] #[]), (1, .pointer (some ⟨bx, 0, none⟩))]) Tryz.func66 rfl rfl rfl (.c (.c .n)) (mem_three hg hb hX hnd) fun a w hs => ?_
 refine wp_seq_k fun K1 hK2 => ?_
 refine wp_region_lit ?_
 refine st_ldB hs rfl (.s .z) .z Tryz.isAgg81 rfl ?_; clear hs w a; intro a w hs
 refine st_rangeE hs rfl .z Tryz.underlying81 rfl ?_; clear hs w a; intro it3 a w hs
 refine wpList_nil ?_
 refine then_n (hK2 _ _ ?_)
 refine wp_block ?_
 refine wp_loopI (fun mm_ a w => ∃ done : List EntR, ∃ Y : HA, mm_ = l.length - done.length ∧ St 15 [(0, .func (.yield L) #[] #[]), (1, .pointer (some ⟨bx, 0, none⟩)), (6, .pointer (some ⟨it3, 0, none⟩))] w0 (feet [mpr g (ekv l), blk bx [.map (some g)] 81, X]) [mit g it3 (ekv l) (ekv done), blk bx [.map (some g)] 81, Y] a w ∧ R done Y) ⟨[], X, rfl, hs.sub (.c rfl (.c rfl (.c rfl .n))), hR⟩ ?_
 clear hs w a; rintro mm_ a w ⟨done, Y, rfl, hs, hI1_0⟩
 refine wp_seq_k fun K4 hK5 => ?_
 refine wp_region_lit ?_
 refine st_nextE hs rfl .z rfl (fun hp6 => ?_) (fun x7 hm8 hl9 => ?_)
 ·
  clear hs w a; intro a w hs
  refine st_ex hs rfl .z rfl ?_; clear hs w a; intro a w hs
  refine wpList_nil ?_
  refine then_n (hK5 _ _ ?_)
  refine wp_seq_k fun K10 hK11 => ?_
  refine wp_cond_false (hs.ev rfl) ?_
  refine wp_exit ?_
  refine th_e ?_
  refine th_e ?_
  refine in_hit ?_
  replace hs := hs.mback .z
  exact fin0 hs rfl ⟨_, _, hp6, hI1_0, rfl⟩
 clear hs w a; intro a w hs
 refine st_ex hs rfl .z rfl ?_; clear hs w a; intro a w hs
 refine wpList_nil ?_
 refine then_n (hK5 _ _ ?_)
 refine wp_seq_k fun K12 hK13 => ?_
 refine wp_cond_true (hs.ev rfl) ?_
 refine wp_skip ?_
 refine then_n (hK13 _ _ ?_)
 refine wp_block ?_
 refine wp_seq_k fun K14 hK15 => ?_
 refine wp_region_lit ?_
 refine st_entryE hs rfl .z rfl ?_; clear hs w a; intro a w hs
 refine st_ex hs rfl (.s .z) rfl ?_; clear hs w a; intro a w hs
 refine st_alloc (cs := [.int .i64 (0), .int .i64 (0), .int .i64 (0), .int .i64 (0), .int .i64 (0), .int .i64 (0), .int .i64 (0), .int .u16 (0), .int .u8 (0)]) hs Tryz.zeroValue73 rfl rfl ?_; clear hs w a; intro g16 a w hs
 refine st_stBA hs rfl rfl .z (.z (.c (.c (.c (.c (.c (.c (.c (.c (.c .n)))))))))) (ones_c rfl (ones_c rfl (ones_c rfl (ones_c rfl (ones_c rfl (ones_c rfl (ones_c rfl (ones_c rfl (ones_c rfl ones_n))))))))) Tryz.sizeOf73 rfl ?_; clear hs w a; intro a w hs
 refine wpList_nil ?_
 refine then_n (hK15 _ _ ?_)
 refine wp_seq_k fun K17 hK18 => ?_
 refine (wpIn_wide (n := 1)).1 (wpIn_region_lit (listIn_app (l1 := [_, _]) (r := none) (fun _ _ h => by obtain ⟨_, _, h, _⟩ := h; cases h) _ _ (nodef_of rfl) ?_))
 refine st_mv hs rfl rfl ?_; clear hs w a; intro a w hs
 refine st_ldBA hs rfl .z (.z (.c (.c (.c (.c (.c (.c (.c (.c (.c .n)))))))))) Tryz.isAgg73 Tryz.sizeOf73 rfl ?_; clear hs w a; intro a w hs
 refine wpList_nil ?_
 show wpListIn _ _ _ _ _ _ _ _
 refine st_yield (X := [Y]) hs rfl (.c rfl .n) (.c (.s (.s (.s .z))) .n) (hy.at hI1_0 hm8 hl9) rfl ?_
 clear hs w a; rintro _ a w ⟨Y2, rfl, hR2⟩ hs; simp only [List.cons_append, List.nil_append] at hs
 refine listIn (fun _ _ h => by obtain ⟨_, _, h, _⟩ := h; cases h) (nodef_of rfl) ?_
 refine st_not hs rfl rfl ?_; clear hs w a; intro a w hs
 replace hs := hs.recell (v' := .bool (false)) (Option.some.inj rfl)
 refine wpList_nil ?_
 refine then_n (hK18 _ _ ?_)
 refine wp_cond_false (hs.ev rfl) ?_
 refine wp_skip ?_
 refine in_n ?_
 refine then_n ?_
 replace hs := hs.drop (.c (.s .z) .n)
 replace hs := hs.reorder (.c (.s .z) (.c (.s .z) (.c .z .n)))
 have hal_ : (done ++ [x7]).length = done.length + 1 := by simp
 refine ⟨_, ?_, _, _, rfl, hs.sub (.c rfl (.c rfl (.c rfl .n))), hR2⟩
 omega
theorem appseq_ok (g bx : Nat) (l : List EntR) (w0 : World) (hg : (mpr g (ekv l)).p w0) (hb : (blk bx [.map (some g)] 81).p w0) (hnd : (feet [mpr g (ekv l), blk bx [.map (some g)] 81]).Nodup) (hl : l.length ≤ 100000) : Calls Tryz.prog 90 #[.slice none 0 0, .func (.func 66) #[] #[.pointer (some ⟨bx, 0, none⟩)]] w0 (Ret w0 (feet [mpr g (ekv l), blk bx [.map (some g)] 81]) fun u N => ∃ l' : List EntR, l'.Perm l ∧ N = [row u 73 9 l'.length (l'.flatMap entV), mpr g (ekv l), blk bx [.map (some g)] 81]) := by
 refine enterM (F0 := [(0, .slice none 0 0), (1, .func (.func 66) #[] #[.pointer (some ⟨bx, 0, none⟩)])]) Tryz.func90 rfl rfl rfl (.c (.c .n)) (mem_two hg hb hnd) fun a w hs => ?_
 refine wpIn_seq_k fun K1 hK2 => ?_
 refine regionIn (fun _ _ h => by obtain ⟨_, _, h, _⟩ := h; cases h) (nodef_of rfl) ?_
 refine st_box (cs := [.slice none 0 0]) hs rfl rfl rfl ?_; clear hs w a; intro g3 a w hs
 refine st_as hs rfl rfl ?_; clear hs w a; intro a w hs
 refine wpList_nil ?_
 refine then_n (hK2 _ _ ?_)
 refine wpIn_seq_k fun K4 hK5 => ?_
 refine wpIn_seq_k fun K6 hK7 => ?_
 refine regionIn (fun _ _ h => by obtain ⟨_, _, h, _⟩ := h; cases h) (nodef_of rfl) ?_
 refine st_mv hs rfl rfl ?_; clear hs w a; intro a w hs
 refine wpList_nil ?_
 refine then_n (hK7 _ _ ?_)
 refine wpIn_block ?_
 replace hs := hs.addNil 73 9
 refine st_rangeFunc hs rfl Tryz.call66 (fun fn D L W rec hrec hm => ?_)
 have hm2 := hm.reorder (X := [mpr g (ekv l), blk bx [.map (some g)] 81, row (.slice none 0 0) 73 9 ([] : List EntR).length (([] : List EntR).flatMap entV), blk g3 [.slice none 0 0] 22, obj L (.loop (rec .ready)), obj D (.deferred (some []))]) (.c (.s (.s (.s (.s .z)))) (.c (.s (.s (.s (.s .z)))) (.c (.s (.s .z)) (.c (.s (.s .z)) (.c .z (.c .z .n))))))
 obtain ⟨hp1, hp2, hp3⟩ := Mem.parts (A := [mpr g (ekv l), blk bx [.map (some g)] 81]) hm2
 have hy : YieldsE Tryz.prog L l (fun done X => ∃ v, X = sepL [row v 73 9 done.length (done.flatMap entV), blk g3 [v] 22, obj L (.loop (rec .ready)), obj D (.deferred (some []))]) := by
  rintro done x X W1 ⟨v, rfl⟩ hX hn hx hlt
  have hX2 := (sep_in hX).reorder (X := [obj L (.loop (rec .ready)), row v 73 9 done.length (done.flatMap entV), blk g3 [v] 22, obj D (.deferred (some []))]) (.c (.s (.s .z)) (.c .z (.c .z (.c .z .n))))
  refine yield_mono (round_at (post := fun N => ∃ v', N = [row v' 73 9 (done ++ [x]).length ((done ++ [x]).flatMap entV), blk g3 [v'] 22, obj D (.deferred (some []))]) hs hrec rfl rfl hX2 (fun a w hs => ?_)) ?_
  ·
   refine regionIn (fun _ _ h => h) (nodef_of rfl) ?_
   refine st_alloc (cs := [.int .i64 (0), .int .i64 (0), .int .i64 (0), .int .i64 (0), .int .i64 (0), .int .i64 (0), .int .i64 (0), .int .u16 (0), .int .u8 (0)]) hs Tryz.zeroValue73 rfl rfl ?_; clear hs w a; intro g8 a w hs
   refine st_stBA hs rfl rfl .z (.z (.c (.c (.c (.c (.c (.c (.c (.c (.c .n)))))))))) (ones_c rfl (ones_c rfl (ones_c rfl (ones_c rfl (ones_c rfl (ones_c rfl (ones_c rfl (ones_c rfl (ones_c rfl ones_n))))))))) Tryz.sizeOf73 rfl ?_; clear hs w a; intro a w hs
   refine wpList_nil ?_
   replace hs := hs.reorder (.c (.s .z) (.c .z (.c .z (.c .z (.c .z .n)))))
   refine ⟨_, _, hs, ?_⟩; clear hs; intro w3 hs
   refine wpIn_block (regionIn (fun _ _ h => by cases h.1) (nodef_of rfl) ?_)
   refine st_ldB hs rfl (.s (.s (.s .z))) .z Tryz.isAgg22 rfl ?_; clear hs w a; intro a w hs
   refine st_ldBA hs rfl (.s .z) (.z (.c (.c (.c (.c (.c (.c (.c (.c (.c .n)))))))))) Tryz.isAgg73 Tryz.sizeOf73 rfl ?_; clear hs w a; intro a w hs
   refine st_bs (cs := [.int .i64 (x.id), .int .i64 (x.p0), .int .i64 (x.p1), .int .i64 (x.p2), .int .i64 (x.v0), .int .i64 (x.v1), .int .i64 (x.v2), .int .u16 ((((x.a).toNat : Nat) : Int)), .int .u8 ((((x.g).toNat : Nat) : Int))]) hs (.c .n) (.c rfl .n) Tryz.underlying22 (ie := Tryz.t73) rfl rfl rfl rfl (by decide) (by decide) rfl (by decide) rfl rfl rfl ?_; clear hs w a; intro g9 a w hs
   refine st_app (size := 9) (bytes := 64) hs rfl rfl (.s (.s (.s .z))) (rd_blk (m := 1) (size := 9) (hs.mem.del .z) rfl (by decide)) (by simp [Value.oneCell']) Tryz.underlying22 (i := Tryz.t73) rfl rfl rfl rfl rfl (by decide) (by omega) (by simp only [maxLen]; omega) rfl ?_; clear hs w a; intro v10 a w hs
   replace hs := hs.drop (.c (.s .z) .n)
   refine st_stB hs rfl rfl (.s (.s (.s .z))) .z (rd_row (hs.mem.del .z)).isSl.one Tryz.sizeOf22 ?_; clear hs w a; intro a w hs
   replace hs := hs.rerow (.s .z) (m' := (done ++ [x]).length) (xs' := ((done ++ [x]).flatMap entV)) (by rw [List.length_append]; rfl) (by rw [List.flatMap_append]; rfl)
   replace hs := hs.drop (.c (.s (.s (.s .z))) .n)
   replace hs := hs.reorder (.c (.s (.s .z)) (.c .z (.c .z (.c .z .n))))
   refine wpList_nil ?_
   exact ⟨rfl, _, ⟨v10, rfl⟩, hs.mem⟩
  rintro e W' ⟨rfl, N, ⟨v', rfl⟩, hM⟩
  exact ⟨rfl, _, ⟨_, rfl, v', rfl⟩, (hM.reorder (.c (.s .z) (.c (.s .z) (.c .z (.c .z .n))))).sep⟩
 refine (vals_ok g bx L l (fun done X => ∃ v, X = sepL [row v 73 9 done.length (done.flatMap entV), blk g3 [v] 22, obj L (.loop (rec .ready)), obj D (.deferred (some []))]) _ W (hp1 _ (by simp)) (hp1 _ (by simp)) hp2 ⟨_, rfl⟩ hp3 hy).mono ?_
 rintro e W' ⟨u, N, rfl, ⟨done, X', hp, ⟨v, rfl⟩, rfl⟩, hM⟩
 have hM2 := hm2.frame (X := [mpr g (ekv l), blk bx [.map (some g)] 81] ++ [row (.slice none 0 0) 73 9 ([] : List EntR).length (([] : List EntR).flatMap entV), blk g3 [.slice none 0 0] 22, obj L (.loop (rec .ready)), obj D (.deferred (some []))]) (.c .z (.c .z (.c .z (.c .z (.c .z (.c .z .n)))))) (Mem.unsep2 (A := [mpr g (ekv l), blk bx [.map (some g)] 81]) (A' := [mpr g (ekv l), blk bx [.map (some g)] 81]) hM)
 refine ⟨⟨_, rfl⟩, [row v 73 9 done.length (done.flatMap entV), mpr g (ekv l), blk bx [.map (some g)] 81, blk g3 [v] 22], hM2.reorder (.c (.s (.s (.s (.s .z)))) (.c (.s (.s (.s (.s .z)))) (.c (.s (.s .z)) (.c .z (.c .z (.c .z .n)))))), fun W2 hM3 => ?_⟩
 refine in_n ?_
 refine then_n (hK5 _ _ ?_)
 refine wpIn_seq_k fun K9 hK9 => ?_
 refine wpIn_region_lit ?_
 have hB : W2.heap[g3]? = some (.cells [v].toArray 22 (0, 0)) := hM3.all (blk g3 [v] 22) (by simp)
 have ha2 := hs.agr 2 _ rfl
 have hz := hs.size
 refine listIn_val (v := v) (w' := W2) rfl (by intro c h; cases h) (run_ldB (g := g3) (i := 0) (by simp [Act.eval, Array.getD_eq_getD_getElem?, ha2]) hB .z Tryz.isAgg22) ?_
 refine listIn_val (v := v) (w' := W2) rfl (by intro c h; cases h) (by simp [execOp, Act.eval, Act.put, Array.getD_eq_getD_getElem?, hz]) ?_
 refine then_n (hK9 _ _ ?_)
 refine wpIn_ret ?_
 rw [hs.dfr]
 refine leaveM (v := v) rfl (by simp [Act.put, Array.getD_eq_getD_getElem?, hz]) (hM3.all (obj D (.deferred (some []))) (by simp)) ?_
 have hM4 := (hM3.frame (X := [obj D (.deferred (some []))]) (.c (.s .z) .n) (mem_obj (o' := .deferred none) (hM3.all (obj D (.deferred (some []))) (by simp)))).drop (X := [obj D (.deferred none), obj L (.loop (rec .exhausted)), blk g3 [v] 22]) (.c .z (.c .z (.c (.s (.s (.s .z))) .n)))
 exact ⟨_, _, rfl, ⟨done, hp, rfl⟩, hM4⟩
end Go.Proofs.YtbioemaipghagaaGreat
