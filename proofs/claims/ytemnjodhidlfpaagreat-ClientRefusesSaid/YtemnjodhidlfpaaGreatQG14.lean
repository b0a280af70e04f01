import Derived.Test.YtemnjodhidlfpaaGreatQG13
import Derived.Test.YtemnjodhidlfpaaGreatQSxStos
import Derived.Test.YtemnjodhidlfpaaGreatQSxBasB
import Derived.Test.YtemnjodhidlfpaaGreatProg
import Derived.KernelRfl
import Derived.Test.YtemnjodhidlfpaaGreatQWvar
import Derived.Test.YtemnjodhidlfpaaGreatQSxRecs
/- Walks of iterators and sorts: what each function does, over the program of this seat. Printed by a program of this session. -/
namespace Go.Proofs.YtemnjodhidlfpaaGreat
open Tryz
open Go Go.Sx Go.RowKit Go.Lib Go.Sort
set_option linter.unusedVariables false
set_option linter.unusedSimpArgs false
set_option maxRecDepth 4000
set_option maxHeartbeats 1000000

theorem zOY (x y:zX) (W:World):Calls Tryz.prog 155 #[.agg #[zI x.id,zI x.p0,zI x.p1,zI x.p2,zI x.v0,zI x.v1,zI x.v2,.int .u16 (((x.a).toNat:Nat):Int),bI x.g],.agg #[zI y.id,zI y.p0,zI y.p1,zI y.p2,zI y.v0,zI y.v1,zI y.v2,.int .u16 (((y.a).toNat:Nat):Int),bI y.g]] W fun e w'=>e = .returned (zI (Lib.compareInt x.id y.id)) ∧ ∃ q os',w' = Sort.grow (W.drewN q) os':=by
 have hcon:=fun W'=>AnyG.cmp_Compare_int Tryz.cmpInt x.id y.id W'
 change ∀ W',Calls Tryz.prog 156 _ _ _ at hcon
 generalize Lib.compareInt x.id y.id = r at hcon ⊢
 go_enter func155,Tryz.ntmps155
 go_wp2_with (go_at_call 156;refine (hcon _).mono ?_;rintro e w' ⟨rfl,rfl⟩)
 go_ret
 exact ⟨rfl,0,_,by rw [alloc_eq_grow,alloc_eq_grow,grow_grow];rfl⟩
theorem zVC {w:World} {v:Value} {m:Nat} {l:List zX} (hr:(row v 142 9 m (l.flatMap zBR)).p w) (hl:l.length = m) (hm:m ≤ 1000000):Calls Tryz.prog 177 #[v,.func (.func 155) #[] #[]] w (Ret w (zN [row v 142 9 m (l.flatMap zBR)]) fun u N=>u = .tuple #[] ∧ ∃ l':List zX,(l'.Perm l ∧ l'.Pairwise (fun x y=>x.id ≤ y.id)) ∧ N = [row v 142 9 m (l'.flatMap zBR)]):=by
 have h:=zWt (α:=zX) Tryz.sortE 9 isAgg142 sizeOf142 zBR zBv (fun x u hu=>by simp only [zBR,List.mem_cons,List.not_mem_nil,or_false] at hu;rcases hu with rfl | rfl | rfl | rfl | rfl | rfl | rfl | rfl | rfl <;> rfl) (fun x y:zX=>Lib.compareInt x.id y.id) (zYK (fun x:zX=>x.id)) 155 call155 (fun W x y=>zOY x y W) hr hl hm
 change Calls Tryz.prog 177 _ _ _ at h
 refine h.mono ?_
 rintro e w' ⟨u,N,rfl,⟨rfl,l',hp,hs,rfl⟩,hM⟩
 refine ⟨_,_,rfl,⟨rfl,l',⟨hp,hs.imp fun h=>?_⟩,rfl⟩,hM⟩
 rw [zNt] at h
 simp only [decide_eq_false_iff_not] at h
 omega
theorem zYf (g bx L:Nat) (l:List zX) (R:List zX → HA → Prop) (X:HA) (w0:World) (hg:(mpr g (ekv l)).p w0) (hb:(blk bx [.map (some g)] 248).p w0) (hX:X.p w0) (hR:R [] X) (hnd:(zN [mpr g (ekv l),blk bx [.map (some g)] 248,X]).Nodup) (hy:zKZ Tryz.prog L l R):Calls Tryz.prog 178 #[.func (.yield L) #[] #[],pt bx 0] w0 (Ret w0 (zN [mpr g (ekv l),blk bx [.map (some g)] 248,X]) fun u N=>∃ done X',done.Perm l ∧ R done X' ∧ N = [mpr g (ekv l),blk bx [.map (some g)] 248,X']):=by
 refine enter (F0:=[(0,.func (.yield L) #[] #[]),(1,pt bx 0)]) func178 rfl rfl rfl (.c (.c .n)) (zRC hg hb hX hnd) fun a w hs=>?_
 refine wp_seq_k fun K1 hK2=>?_
 refine wp_region_lit ?_
 refine zLr hs rfl (.s .z) .z isAgg248 rfl ?_;clear hs w a;intro a w hs
 refine zP5 hs rfl .z underlying248 rfl ?_;clear hs w a;intro it3 a w hs
 refine wpList_nil ?_
 refine zAs (hK2 _ _ ?_)
 refine wp_block ?_
 refine zKd (fun mm_ a w=>∃ done:List zX,∃ Y:HA,mm_ = l.length - done.length ∧ St 15 [(0,.func (.yield L) #[] #[]),(1,pt bx 0),(6,pt it3 0)] w0 (zN [mpr g (ekv l),blk bx [.map (some g)] 248,X]) [mit g it3 (ekv l) (ekv done),blk bx [.map (some g)] 248,Y] a w ∧ R done Y) ⟨[],X,rfl,hs.sub (.c rfl (.c rfl (.c rfl .n))),hR⟩ ?_
 clear hs w a;rintro mm_ a w ⟨done,Y,rfl,hs,hI1_0⟩
 refine wp_seq_k fun K4 hK5=>?_
 refine wp_region_lit ?_
 refine zVK hs rfl .z rfl (fun hp6=>?_) (fun x7 hm8 hl9=>?_)
 ·
  clear hs w a;intro a w hs
  refine zHL hs rfl .z rfl ?_;clear hs w a;intro a w hs
  refine wpList_nil ?_
  refine zAs (hK5 _ _ ?_)
  refine wp_seq_k fun K10 hK11=>?_
  refine wp_cond_false (hs.ev rfl) ?_
  refine wp_exit ?_
  refine zat ?_
  refine zat ?_
  refine zPs ?_
  replace hs:=hs.mback .z
  exact zIm hs rfl ⟨_,_,hp6,hI1_0,rfl⟩
 clear hs w a;intro a w hs
 refine zHL hs rfl .z rfl ?_;clear hs w a;intro a w hs
 refine wpList_nil ?_
 refine zAs (hK5 _ _ ?_)
 refine wp_seq_k fun K12 hK13=>?_
 refine wp_cond_true (hs.ev rfl) ?_
 refine wp_skip ?_
 refine zAs (hK13 _ _ ?_)
 refine wp_block ?_
 refine wp_seq_k fun K14 hK15=>?_
 refine wp_region_lit ?_
 refine zQN hs rfl .z rfl ?_;clear hs w a;intro a w hs
 refine zHL hs rfl (.s .z) rfl ?_;clear hs w a;intro a w hs
 refine zCf (cs:=[zI 0,zI 0,zI 0,zI 0,zI 0,zI 0,zI 0,.int .u16 (0),.int .u8 (0)]) hs zeroValue142 rfl rfl ?_;clear hs w a;intro g16 a w hs
 refine zAU hs rfl rfl .z (.z (.c (.c (.c (.c (.c (.c (.c (.c (.c .n)))))))))) (zJ rfl (zJ rfl (zJ rfl (zJ rfl (zJ rfl (zJ rfl (zJ rfl (zJ rfl (zJ rfl zAa))))))))) sizeOf142 rfl ?_;clear hs w a;intro a w hs
 refine wpList_nil ?_
 refine zAs (hK15 _ _ ?_)
 refine wp_seq_k fun K17 hK18=>?_
 refine (wpIn_wide (n:=1)).1 (wpIn_region_lit (zGt (l1:=[_,_]) (r:=none) (fun _ _ h=>by obtain ⟨_,_,h,_⟩:=h;cases h) _ _ (zAw rfl) ?_))
 refine zGB hs rfl rfl ?_;clear hs w a;intro a w hs
 refine zQ8 hs rfl .z (.z (.c (.c (.c (.c (.c (.c (.c (.c (.c .n)))))))))) isAgg142 sizeOf142 rfl ?_;clear hs w a;intro a w hs
 refine wpList_nil ?_
 show wpListIn _ _ _ _ _ _ _ _
 refine zTO (X:=[Y]) hs rfl (.c rfl .n) (.c (.s (.s (.s .z))) .n) (hy.at hI1_0 hm8 hl9) rfl ?_
 clear hs w a;rintro _ a w ⟨Y2,rfl,hR2⟩ hs;simp only [List.cons_append,List.nil_append] at hs
 refine zSY (fun _ _ h=>by obtain ⟨_,_,h,_⟩:=h;cases h) (zAw rfl) ?_
 refine zVU hs rfl rfl ?_;clear hs w a;intro a w hs
 replace hs:=hs.recell (v':=.bool (false)) (Option.some.inj rfl)
 refine wpList_nil ?_
 refine zAs (hK18 _ _ ?_)
 refine wp_cond_false (hs.ev rfl) ?_
 refine wp_skip ?_
 refine zZg ?_
 refine zAs ?_
 replace hs:=hs.drop (.c (.s .z) .n)
 replace hs:=hs.reorder (.c (.s .z) (.c (.s .z) (.c .z .n)))
 have hal_:(done ++ [x7]).length = done.length + 1:=by simp
 refine ⟨_,?_,_,_,rfl,hs.sub (.c rfl (.c rfl (.c rfl .n))),hR2⟩
 omega
theorem zPw (g bx:Nat) (l:List zX) (w0:World) (hg:(mpr g (ekv l)).p w0) (hb:(blk bx [.map (some g)] 248).p w0) (hnd:(zN [mpr g (ekv l),blk bx [.map (some g)] 248]).Nodup) (hl:l.length ≤ 100000):Calls Tryz.prog 186 #[.slice none 0 0,.func (.func 178) #[] #[pt bx 0]] w0 (Ret w0 (zN [mpr g (ekv l),blk bx [.map (some g)] 248]) fun u N=>∃ l':List zX,l'.Perm l ∧ N = [row u 142 9 l'.length (l'.flatMap zBR),mpr g (ekv l),blk bx [.map (some g)] 248]):=by
 refine zV2 (F0:=[(0,.slice none 0 0),(1,.func (.func 178) #[] #[pt bx 0])]) func186 rfl rfl rfl (.c (.c .n)) (zEF hg hb hnd) fun a w hs=>?_
 refine wpIn_seq_k fun K1 hK2=>?_
 refine zBg (fun _ _ h=>by obtain ⟨_,_,h,_⟩:=h;cases h) (zAw rfl) ?_
 refine zJU (cs:=[.slice none 0 0]) hs rfl rfl rfl ?_;clear hs w a;intro g3 a w hs
 refine zEX hs rfl rfl ?_;clear hs w a;intro a w hs
 refine wpList_nil ?_
 refine zAs (hK2 _ _ ?_)
 refine wpIn_seq_k fun K4 hK5=>?_
 refine wpIn_seq_k fun K6 hK7=>?_
 refine zBg (fun _ _ h=>by obtain ⟨_,_,h,_⟩:=h;cases h) (zAw rfl) ?_
 refine zGB hs rfl rfl ?_;clear hs w a;intro a w hs
 refine wpList_nil ?_
 refine zAs (hK7 _ _ ?_)
 refine wpIn_block ?_
 replace hs:=hs.addNil 142 9
 refine zL2 hs rfl call178 (fun fn D L W rec hrec hm=>?_)
 have hm2:=hm.reorder (X:=[mpr g (ekv l),blk bx [.map (some g)] 248,row (.slice none 0 0) 142 9 ([]:List zX).length (([]:List zX).flatMap zBR),blk g3 [.slice none 0 0] 42,obj L (.loop (rec .ready)),obj D (.deferred (some []))]) (.c (.s (.s (.s (.s .z)))) (.c (.s (.s (.s (.s .z)))) (.c (.s (.s .z)) (.c (.s (.s .z)) (.c .z (.c .z .n))))))
 obtain ⟨hp1,hp2,hp3⟩:=Mem.parts (A:=[mpr g (ekv l),blk bx [.map (some g)] 248]) hm2
 have hy:zKZ Tryz.prog L l (fun done X=>∃ v,X = zGL [row v 142 9 done.length (done.flatMap zBR),blk g3 [v] 42,obj L (.loop (rec .ready)),obj D (.deferred (some []))]):=by
  rintro done x X W1 ⟨v,rfl⟩ hX hn hx hlt
  have hX2:=(zVm hX).reorder (X:=[obj L (.loop (rec .ready)),row v 142 9 done.length (done.flatMap zBR),blk g3 [v] 42,obj D (.deferred (some []))]) (.c (.s (.s .z)) (.c .z (.c .z (.c .z .n))))
  refine zI1 (zTl (post:=fun N=>∃ v',N = [row v' 142 9 (done ++ [x]).length ((done ++ [x]).flatMap zBR),blk g3 [v'] 42,obj D (.deferred (some []))]) hs hrec rfl rfl hX2 (fun a w hs=>?_)) ?_
  ·
   refine zBg (fun _ _ h=>h) (zAw rfl) ?_
   refine zCf (cs:=[zI 0,zI 0,zI 0,zI 0,zI 0,zI 0,zI 0,.int .u16 (0),.int .u8 (0)]) hs zeroValue142 rfl rfl ?_;clear hs w a;intro g8 a w hs
   refine zAU hs rfl rfl .z (.z (.c (.c (.c (.c (.c (.c (.c (.c (.c .n)))))))))) (zJ rfl (zJ rfl (zJ rfl (zJ rfl (zJ rfl (zJ rfl (zJ rfl (zJ rfl (zJ rfl zAa))))))))) sizeOf142 rfl ?_;clear hs w a;intro a w hs
   refine wpList_nil ?_
   replace hs:=hs.reorder (.c (.s .z) (.c .z (.c .z (.c .z (.c .z .n)))))
   refine ⟨_,_,hs,?_⟩;clear hs;intro w3 hs
   refine wpIn_block (zBg (fun _ _ h=>by cases h.1) (zAw rfl) ?_)
   refine zLr hs rfl (.s (.s (.s .z))) .z isAgg42 rfl ?_;clear hs w a;intro a w hs
   refine zQ8 hs rfl (.s .z) (.z (.c (.c (.c (.c (.c (.c (.c (.c (.c .n)))))))))) isAgg142 sizeOf142 rfl ?_;clear hs w a;intro a w hs
   refine zHw (cs:=[zI x.id,zI x.p0,zI x.p1,zI x.p2,zI x.v0,zI x.v1,zI x.v2,.int .u16 (((x.a).toNat:Nat):Int),bI x.g]) hs (.c .n) (.c rfl .n) underlying42 (ie:=Tryz.t142) rfl rfl rfl rfl (by decide) (by decide) rfl (by decide) rfl rfl rfl ?_;clear hs w a;intro g9 a w hs
   refine zBS (size:=9) (bytes:=64) hs rfl rfl (.s (.s (.s .z))) (zAK (m:=1) (size:=9) (hs.mem.del .z) rfl (by decide)) (by simp [Value.oneCell']) underlying42 (i:=Tryz.t142) rfl rfl rfl rfl rfl (by decide) (by omega) (by simp only [maxLen];omega) rfl ?_;clear hs w a;intro v10 a w hs
   replace hs:=hs.drop (.c (.s .z) .n)
   refine zBe hs rfl rfl (.s (.s (.s .z))) .z (zK (hs.mem.del .z)).isSl.one sizeOf42 ?_;clear hs w a;intro a w hs
   replace hs:=hs.rerow (.s .z) (m':=(done ++ [x]).length) (xs':=((done ++ [x]).flatMap zBR)) (by rw [List.length_append];rfl) (by rw [List.flatMap_append];rfl)
   replace hs:=hs.drop (.c (.s (.s (.s .z))) .n)
   replace hs:=hs.reorder (.c (.s (.s .z)) (.c .z (.c .z (.c .z .n))))
   refine wpList_nil ?_
   exact ⟨rfl,_,⟨v10,rfl⟩,hs.mem⟩
  rintro e W' ⟨rfl,N,⟨v',rfl⟩,hM⟩
  exact ⟨rfl,_,⟨_,rfl,v',rfl⟩,(hM.reorder (.c (.s .z) (.c (.s .z) (.c .z (.c .z .n))))).sep⟩
 refine (zYf g bx L l (fun done X=>∃ v,X = zGL [row v 142 9 done.length (done.flatMap zBR),blk g3 [v] 42,obj L (.loop (rec .ready)),obj D (.deferred (some []))]) _ W (hp1 _ (by simp)) (hp1 _ (by simp)) hp2 ⟨_,rfl⟩ hp3 hy).mono ?_
 rintro e W' ⟨u,N,rfl,⟨done,X',hp,⟨v,rfl⟩,rfl⟩,hM⟩
 have hM2:=hm2.frame (X:=[mpr g (ekv l),blk bx [.map (some g)] 248] ++ [row (.slice none 0 0) 142 9 ([]:List zX).length (([]:List zX).flatMap zBR),blk g3 [.slice none 0 0] 42,obj L (.loop (rec .ready)),obj D (.deferred (some []))]) (.c .z (.c .z (.c .z (.c .z (.c .z (.c .z .n)))))) (Mem.unsep2 (A:=[mpr g (ekv l),blk bx [.map (some g)] 248]) (A':=[mpr g (ekv l),blk bx [.map (some g)] 248]) hM)
 refine ⟨⟨_,rfl⟩,[row v 142 9 done.length (done.flatMap zBR),mpr g (ekv l),blk bx [.map (some g)] 248,blk g3 [v] 42],hM2.reorder (.c (.s (.s (.s (.s .z)))) (.c (.s (.s (.s (.s .z)))) (.c (.s (.s .z)) (.c .z (.c .z (.c .z .n)))))),fun W2 hM3=>?_⟩
 refine zZg ?_
 refine zAs (hK5 _ _ ?_)
 refine wpIn_seq_k fun K9 hK9=>?_
 refine wpIn_region_lit ?_
 have hB:W2.heap[g3]? = some (.cells [v].toArray 42 (0,0)):=hM3.all (blk g3 [v] 42) (by simp)
 have ha2:=hs.agr 2 _ rfl
 have hz:=hs.size
 refine zIy (v:=v) (w':=W2) rfl (by intro c h;cases h) (zYy (g:=g3) (i:=0) (by simp [Act.eval,Array.getD_eq_getD_getElem?,ha2]) hB .z isAgg42) ?_
 refine zIy (v:=v) (w':=W2) rfl (by intro c h;cases h) (by simp [execOp,Act.eval,Act.put,Array.getD_eq_getD_getElem?,hz]) ?_
 refine zAs (hK9 _ _ ?_)
 refine wpIn_ret ?_
 rw [hs.dfr]
 refine zaa (v:=v) rfl (by simp [Act.put,Array.getD_eq_getD_getElem?,hz]) (hM3.all (obj D (.deferred (some []))) (by simp)) ?_
 have hM4:=(hM3.frame (X:=[obj D (.deferred (some []))]) (.c (.s .z) .n) (zDO (o':=.deferred none) (hM3.all (obj D (.deferred (some []))) (by simp)))).drop (X:=[obj D (.deferred none),obj L (.loop (rec .exhausted)),blk g3 [v] 42]) (.c .z (.c .z (.c (.s (.s (.s .z))) .n)))
 exact ⟨_,_,rfl,⟨done,hp,rfl⟩,hM4⟩
end Go.Proofs.YtemnjodhidlfpaaGreat
/- Walks of times: what each function does, over the program of this seat. Printed by a program of this session. -/
namespace Go.Proofs.YtemnjodhidlfpaaGreat
open Tryz
open Go Go.Sx Go.RowKit
set_option linter.unusedVariables false
set_option linter.unusedSimpArgs false
set_option maxRecDepth 4000
set_option maxHeartbeats 1000000

theorem zLw (x:Int) (w0:World):Calls Tryz.prog 87 #[.int .i64 x] w0 (zAf w0 (.bool (decide (-2305843009213693952 ≤ x ∧ x ≤ 2305843009213693952)))):=by
 refine zF (F0:=[(0,zI x)]) func87 rfl rfl rfl (.c .n) (Mem.nil _) ?_
 refine go 4 [] [5,0] .n ?_
 intro a w hs;refine zT (b:=decide ((-2305843009213693952) ≤ x)) (fun c_1=>?_) (fun c_1=>?_)
 ·
  rw [c_1] at hs
  replace c_1:=of_decide_eq_true c_1
  revert a w hs
  refine go 4 [] [2] .n ?_
  intro a w hs;exact fin hs rfl rfl ⟨congrArg Value.bool (by first | (rw [decide_eq_decide];omega) | (symm;rw [decide_eq_false_iff_not];omega)),rfl⟩
 rw [c_1] at hs
 replace c_1:=of_decide_eq_false c_1
 revert a w hs
 refine go 4 [] [2] .n ?_
 intro a w hs;exact fin hs rfl rfl ⟨congrArg Value.bool (by first | (rw [decide_eq_decide];omega) | (symm;rw [decide_eq_false_iff_not];omega)),rfl⟩
end Go.Proofs.YtemnjodhidlfpaaGreat
/- Walks of reader: what each function does, over the program of this seat. Printed by a program of this session. -/
namespace Go.Proofs.YtemnjodhidlfpaaGreat
open Tryz
open Go Go.Sx Go.RowKit
set_option linter.unusedVariables false
set_option linter.unusedSimpArgs false
set_option maxRecDepth 4000
set_option maxHeartbeats 1000000

theorem zGp (g:Nat) (v:Value) (m:Nat) (bs:List zP) (R:Rs) (w0:World) (hb:Rd w0 [] v 1 m (zD bs)) (hg:(blk g [v,nI R.p,nI R.e] 165).p w0) (hle:R.p ≤ bs.length):Calls Tryz.prog 90 #[pt g 0] w0 (zAf w0 (nI R.e)):=by
 have hbl:bs.length = m:=by have:=hb.len;simpa [zD] using this
 have hbe:m ≤ maxLen:=hb.le
 simp only [maxLen] at hbe
 refine zF (F0:=[(0,pt g 0)]) func90 rfl rfl rfl (.c .n) (Mem.nil _) ?_
 refine go 7 [] [7] .n ?_
 intro a w hs;refine zV hs rfl (hs.mem.keep hg (by simp [zN,blk])) (.s (.s .z)) isAgg26 rfl ?_
 refine goL 1 [] [2] .n ?_
 intro a w hs;exact fin hs rfl rfl ⟨rfl,rfl⟩
theorem zJs (g:Nat) (v:Value) (m:Nat) (bs:List zP) (R:Rs) (w0:World) (hb:Rd w0 [] v 1 m (zD bs)) (hg:(blk g [v,nI R.p,nI R.e] 165).p w0) (hle:R.p ≤ bs.length):Calls Tryz.prog 91 #[pt g 0] w0 (zAf w0 (nI (bs.length - R.p))):=by
 have hbl:bs.length = m:=by have:=hb.len;simpa [zD] using this
 have hbe:m ≤ maxLen:=hb.le
 simp only [maxLen] at hbe
 refine zF (F0:=[(0,pt g 0)]) func91 rfl rfl rfl (.c .n) (Mem.nil _) ?_
 refine go 4 [] [0] .n ?_
 intro a w hs
 refine zR [.p [] [],.p [0] [],.p [1] [],.v [2] v,.v [3] (zI (m:Int)),.p [] [],.p [5] [],.p [6] [],.v [7] (nI R.p),.p [8,4] [],.p [9] []] [10] hs .n .n (by kernel_rfl) ⟨fun _ _ _ _ hm hs K=>zV hs rfl (hm.keep hg (by simp [zN,blk])) .z isAgg31 rfl (vk K),fun _ _ _ _ hm hs K=>zW hs rfl (hm.rd0 hb).isSl underlying31 rfl (vk K),fun _ _ _ _ hm hs K=>zV hs rfl (hm.keep hg (by simp [zN,blk])) (.s .z) isAgg3 rfl (vk K),(by omega),⟨rfl,by kernel_rfl,fun _=>rfl,rfl,rfl,trivial⟩,fun _=>rfl,?_⟩
 refine goE 0 [] [2] .n ?_
 intro a w hs;exact fin hs rfl rfl ⟨congrArg (Value.int .i64) (by omega),rfl⟩
theorem zTU (g:Nat) (v:Value) (m:Nat) (bs:List zP) (R:Rs) (w0:World) (hb:Rd w0 [] v 1 m (zD bs)) (hg:(blk g [v,nI R.p,nI R.e] 165).p w0) (hle:R.p ≤ bs.length):Calls Tryz.prog 46 #[pt g 0] w0 (zAf w0 (nI (zIw bs R))):=by
 have hbl:bs.length = m:=by have:=hb.len;simpa [zD] using this
 have hbe:m ≤ maxLen:=hb.le
 simp only [maxLen] at hbe
 refine zF (F0:=[(0,pt g 0)]) func46 rfl rfl rfl (.c .n) (Mem.nil _) ?_
 refine go 2 [] [4,0] .n ?_
 intro a w hs;refine zB (v:=nI R.e) hs (.c rfl .n) call90 (zGp g _ _ bs R _ (hs.rd0 hb) (hs.mem.keep hg (by simp [zN,blk])) (by omega)) rfl ?_
 refine goL 4 [] [8,3,0] .n ?_
 intro a w hs;refine zT (b:=!((((R.e:Nat):Int):Int) == 0)) (fun c_1=>?_) (fun c_1=>?_)
 ·
  rw [c_1] at hs
  replace c_1:=zFg c_1
  replace c_1:=zAD c_1
  revert a w hs
  refine go 7 [] [2] .n ?_
  intro a w hs;exact fin hs rfl rfl ⟨congrArg (Value.int .i64) (by unfold zIw;first | rw [if_pos (by omega)] | rw [if_neg (by omega)];rfl),rfl⟩
 rw [c_1] at hs
 replace c_1:=zFa c_1
 replace c_1:=eq_of_beq c_1
 revert a w hs
 refine go 1 [] [9,8,3] .n ?_
 intro a w hs;refine zC hs rfl rfl rfl ?_
 refine zB (v:=nI (bs.length - R.p)) hs (.c rfl .n) call91 (zJs g _ _ bs R _ (hs.rd0 hb) (hs.mem.keep hg (by simp [zN,blk])) (by omega)) rfl ?_
 refine goL 2 [] [12,3] .n ?_
 refine ifG rfl (fun c_2=>?_) (fun c_2=>?_)
 ·
  refine go 2 [] [2] .n ?_
  intro a w hs;exact fin hs rfl rfl ⟨congrArg (Value.int .i64) (by unfold zIw;first | rw [if_pos (by omega)] | rw [if_neg (by omega)];rfl),rfl⟩
 refine go 1 [] [2] .n ?_
 intro a w hs;exact fin hs rfl rfl ⟨congrArg (Value.int .i64) (by unfold zIw;first | rw [if_pos (by omega)] | rw [if_neg (by omega)];rfl),rfl⟩
theorem zUN (v:Value) (m:Nat) (bs:List zP) (w0:World) (hb:Rd w0 [] v 1 m (zD bs)) (h0:0 < m):Calls Tryz.prog 162 #[v] w0 (zAf w0 (.tuple #[bI (bs.getD 0 0),.int .i64 1,.int .i64 0])):=by
 have hbl:bs.length = m:=by have:=hb.len;simpa [zD] using this
 have hbe:m ≤ maxLen:=hb.le
 simp only [maxLen] at hbe
 refine zF (F0:=[(0,v)]) func162 rfl rfl rfl (.c .n) (Mem.nil _) ?_
 refine go 4 [] [5] .n ?_
 intro a w hs;refine zA4 (j:=0) hs rfl rfl (hs.rd0 hb) (by decide) (by omega) underlying31 sizeOf5 rfl ?_
 intro a w hs;refine zBn hs rfl (hs.rd0 hb) (zCA bs (by first | omega | (simp;omega))) isAgg5 rfl ?_
 refine goL 3 [] [4,3,2] .n ?_
 intro a w hs;exact zEf hs rfl rfl rfl rfl ⟨rfl,rfl⟩
theorem zU7 (v:Value) (m:Nat) (bs:List zP) (gl:Nat) (X:BitVec 64) (w0:World) (hb:Rd w0 [] v 1 m (zD bs)) {tl:TypeId} (hl:(blk gl [.int .u64 (X.toNat:Int)] tl).p w0):Calls Tryz.prog 129 #[v,pt gl 0] w0 (zAf w0 (.tuple #[.int .u64 (((zCR bs).1.toNat:Nat):Int),nI ((zCR bs).2.1),nI (zIu bs X)])):=by
 have hbl:bs.length = m:=by have:=hb.len;simpa [zD] using this
 have hbe:m ≤ maxLen:=hb.le
 simp only [maxLen] at hbe
 refine zF (F0:=[(0,v),(1,pt gl 0)]) func129 rfl rfl rfl (.c (.c .n)) (Mem.nil _) ?_
 refine go 4 [] [10,1] .n ?_
 intro a w hs;refine zB (v:=.tuple #[qI ((zCR bs).1),nI ((zCR bs).2.1),nI ((zCR bs).2.2)]) hs (.c rfl .n) call130 (zZB _ _ bs _ (hs.rd0 hb)) rfl ?_
 refine goL 10 [] [17,8,7,6,1] .n ?_
 intro a w hs;refine zT (b:=((((zCR bs).2.2:Nat):Int):Int) == 0) (fun c_1=>?_) (fun c_1=>?_)
 ·
  rw [c_1] at hs
  replace c_1:=eq_of_beq c_1
  revert a w hs
  refine go 1 [] [18,17,8,7,6,1] .n ?_
  intro a w hs;refine zC hs rfl rfl rfl ?_
  refine zV hs rfl (hs.mem.keep hl (by simp [zN,blk])) .z isAgg167 rfl ?_
  refine goL 2 [] [21,8,7,6] .n ?_
  refine ifG rfl (fun c_2=>?_) (fun c_2=>?_)
  ·
   refine go 7 [] [5,4,3] .n ?_
   intro a w hs;exact zEf hs rfl rfl rfl rfl ⟨by unfold zIu;first | (rw [if_pos (by omega)];rfl) | (rw [if_neg (by omega)]),rfl⟩
  refine go 6 [] [5,4,3] .n ?_
  intro a w hs;exact zEf hs rfl rfl rfl rfl ⟨by unfold zIu;first | (rw [if_pos (by omega)];rfl) | (rw [if_neg (by omega)]),rfl⟩
 rw [c_1] at hs
 replace c_1:=zAD c_1
 revert a w hs
 refine go 11 [] [5,4,3] .n ?_
 intro a w hs;exact zEf hs rfl rfl rfl rfl ⟨by unfold zIu;first | (rw [if_pos (by omega)];rfl) | (rw [if_neg (by omega)]),rfl⟩
theorem zU8 (g:Nat) (v:Value) (m:Nat) (bs:List zP) (R:Rs) (w0:World) (hb:Rd w0 [g] v 1 m (zD bs)) (hg:(blk g [v,nI R.p,nI R.e] 165).p w0) (hle:R.p ≤ bs.length):Calls Tryz.prog 161 #[pt g 0,.func (.func 162) #[] #[]] w0 (Ret w0 [g] fun u N=>u = .int .u8 (((zH bs R).1.toNat:Nat):Int) ∧ N = [blk g [v,nI (((zH bs R).2).p),nI (((zH bs R).2).e)] 165]):=by
 have hbl:bs.length = m:=by have:=hb.len;simpa [zD] using this
 have hbe:m ≤ maxLen:=hb.le
 simp only [maxLen] at hbe
 refine zF (F0:=[(0,pt g 0),(1,.func (.func 162) #[] #[])]) func161 rfl rfl rfl (.c (.c .n)) (zAm hg) ?_
 refine go 3 [] [9,5,0,1] .n ?_
 intro a w hs;refine zB (v:=nI R.e) hs (.c rfl .n) call90 (zGp g _ _ bs R _ (hs.rd0 hb) (hs.mem.del .z) (by omega)) rfl ?_
 refine goL 1 [] [11,5,0,1] .n ?_
 refine ifG rfl (fun c_1=>?_) (fun c_1=>?_)
 ·
  refine go 2 [] [4] .n ?_
  intro a w hs;exact fin hs rfl rfl (by first | (rw [zDp (by omega)];exact ⟨rfl,rfl⟩) | (rw [zDQ (by omega) (by omega)];exact ⟨rfl,rfl⟩) | (have he0:R.e = 0:=(by omega);rw [zD3 he0 (by omega)];simp [he0,nI]))
 refine go 1 [] [13,5,0,1] .n ?_
 intro a w hs;refine zB (v:=nI (bs.length - R.p)) hs (.c rfl .n) call91 (zJs g _ _ bs R _ (hs.rd0 hb) (hs.mem.del .z) (by omega)) rfl ?_
 refine goL 1 [] [15,5,0,1] .n ?_
 refine ifG rfl (fun c_2=>?_) (fun c_2=>?_)
 ·
  refine go 6 [0] [4] (.c .z .n) ⟨rfl,?_⟩
  intro a w hs;exact fin hs rfl rfl (by first | (rw [zDp (by omega)];exact ⟨rfl,rfl⟩) | (rw [zDQ (by omega) (by omega)];exact ⟨rfl,rfl⟩) | (have he0:R.e = 0:=(by omega);rw [zD3 he0 (by omega)];simp [he0,nI]))
 refine go 0 [] [5,0,1] .n ?_
 intro a w hs
 refine zR [.p [] [],.p [] [],.p [1] [],.p [2] [],.p [3] [0],.p [] [],.p [5] [],.p [6] [],.p [7] [0],.v [8,4] (zFv v 1 R.p m),.v [9,0] (.tuple #[bI ((bs.drop R.p).getD 0 0),zI 1,zI 0]),.p [10] [],.p [11] [],.p [11] [],.p [11] [],.p [12] [],.p [13] [],.p [14] []] [15,16,17] hs .n (.c .z .n) (by kernel_rfl) ⟨rfl,rfl,fun _ _ _ _ hm hs K=>zIB (j:=R.p) hs rfl rfl rfl (hm.rd0 hb).isSl (by omega) underlying31 sizeOf5 rfl (vk K),fun _ _ _ _ hm hs K=>zBa (us:=[]) (v:=.tuple #[bI ((bs.drop R.p).getD 0 0),zI 1,zI 0]) hs rfl (.c rfl .n) rfl call162 (zUN _ _ (bs.drop R.p) _ ((hm.rd0 hb).slcL (l:=R.p) (by omega)) (by omega)) rfl (vk K),⟨rfl,by kernel_rfl,fun _=>rfl,rfl,rfl,trivial⟩,fun _=>rfl,?_⟩
 refine goE 14 [0,0] [4] (.c .z .n) ⟨rfl,(by omega),rfl,?_⟩
 intro a w hs;exact fin hs rfl rfl (by first | (rw [zDp (by omega)];exact ⟨rfl,rfl⟩) | (rw [zDQ (by omega) (by omega)];exact ⟨rfl,rfl⟩) | (have he0:R.e = 0:=(by omega);rw [zD3 he0 (by omega)];simp [he0,nI]))
theorem zKi (g:Nat) (v:Value) (m:Nat) (bs:List zP) (R:Rs) (w0:World) (hb:Rd w0 [g] v 1 m (zD bs)) (hg:(blk g [v,nI R.p,nI R.e] 165).p w0) (hle:R.p ≤ bs.length):Calls Tryz.prog 127 #[pt g 0] w0 (Ret w0 [g] fun u N=>u = .int .u8 (((zH bs R).1.toNat:Nat):Int) ∧ N = [blk g [v,nI (((zH bs R).2).p),nI (((zH bs R).2).e)] 165]):=by
 have hbl:bs.length = m:=by have:=hb.len;simpa [zD] using this
 have hbe:m ≤ maxLen:=hb.le
 simp only [maxLen] at hbe
 refine zF (F0:=[(0,pt g 0)]) func127 rfl rfl rfl (.c .n) (zAm hg) ?_
 refine go 2 [] [3] .n ?_
 intro a w hs;refine zAV hs (.c rfl (.c rfl .n)) call161 (.c .z .n) (zU8  g _ _ bs R _ (hs.mem.rd1 hb (.c .z .n)) (hs.mem.del .z) (by omega)) rfl ?_
 have hk1:=zD8 (bs:=bs) (R:=R) (by omega)
 refine goL 1 [] [2] .n ?_
 intro a w hs;exact fin hs rfl rfl ⟨rfl,rfl⟩
theorem zTM (gl:Nat) (X:BitVec 64) (g:Nat) (v:Value) (m:Nat) (bs:List zP) (R:Rs) (w0:World) (hb:Rd w0 [g] v 1 m (zD bs)) (hg:(blk g [v,nI R.p,nI R.e] 165).p w0) (hle:R.p ≤ bs.length) {tl:TypeId} (hl:(blk gl [.int .u64 (X.toNat:Int)] tl).p w0) (hgl:gl ≠ g):Calls Tryz.prog 128 #[pt g 0,.func (.func 129) #[] #[pt gl 0]] w0 (Ret w0 [g] fun u N=>u = .int .u64 (((zO bs X R).1.toNat:Nat):Int) ∧ N = [blk g [v,nI (((zO bs X R).2).p),nI (((zO bs X R).2).e)] 165]):=by
 have hbl:bs.length = m:=by have:=hb.len;simpa [zD] using this
 have hbe:m ≤ maxLen:=hb.le
 simp only [maxLen] at hbe
 refine zF (F0:=[(0,pt g 0),(1,.func (.func 129) #[] #[pt gl 0])]) func128 rfl rfl rfl (.c (.c .n)) (zAm hg) ?_
 refine go 3 [] [9,5,0,1] .n ?_
 intro a w hs;refine zB (v:=nI R.e) hs (.c rfl .n) call90 (zGp g _ _ bs R _ (hs.rd0 hb) (hs.mem.del .z) (by omega)) rfl ?_
 refine goL 1 [] [11,5,0,1] .n ?_
 refine ifG rfl (fun c_1=>?_) (fun c_1=>?_)
 ·
  refine go 2 [] [4] .n ?_
  intro a w hs;exact fin hs rfl rfl (by first | (rw [zCp (by omega)];exact ⟨rfl,rfl⟩) | (rw [zCa (by omega) (by omega)];exact ⟨rfl,rfl⟩) | (rw [zDt (by omega) (by omega) (by omega)];exact ⟨rfl,rfl⟩) | (have he0:R.e = 0:=(by omega);rw [zDF he0 (by omega) (by omega)];simp [he0,nI]))
 refine go 1 [] [13,5,0,1] .n ?_
 intro a w hs;refine zB (v:=nI (bs.length - R.p)) hs (.c rfl .n) call91 (zJs g _ _ bs R _ (hs.rd0 hb) (hs.mem.del .z) (by omega)) rfl ?_
 refine goL 1 [] [15,5,0,1] .n ?_
 refine ifG rfl (fun c_2=>?_) (fun c_2=>?_)
 ·
  refine go 6 [0] [4] (.c .z .n) ⟨rfl,?_⟩
  intro a w hs;exact fin hs rfl rfl (by first | (rw [zCp (by omega)];exact ⟨rfl,rfl⟩) | (rw [zCa (by omega) (by omega)];exact ⟨rfl,rfl⟩) | (rw [zDt (by omega) (by omega) (by omega)];exact ⟨rfl,rfl⟩) | (have he0:R.e = 0:=(by omega);rw [zDF he0 (by omega) (by omega)];simp [he0,nI]))
 refine go 0 [] [5,0,1] .n ?_
 intro a w hs
 refine zR [.p [] [],.p [] [],.p [1] [],.p [2] [],.p [3] [0],.p [] [],.p [5] [],.p [6] [],.p [7] [0],.v [8,4] (zFv v 1 R.p m),.v [9,0] (.tuple #[qI ((zCR (bs.drop R.p)).1),nI ((zCR (bs.drop R.p)).2.1),nI (zIu (bs.drop R.p) X)]),.p [10] [],.p [11] [],.p [11] [],.p [11] [],.p [12] [],.p [13] [],.p [14] []] [15,16,17] hs .n (.c .z .n) (by kernel_rfl) ⟨rfl,rfl,fun _ _ _ _ hm hs K=>zIB (j:=R.p) hs rfl rfl rfl (hm.rd0 hb).isSl (by omega) underlying31 sizeOf5 rfl (vk K),fun _ _ _ _ hm hs K=>zBa (us:=[pt gl 0]) (v:=.tuple #[qI ((zCR (bs.drop R.p)).1),nI ((zCR (bs.drop R.p)).2.1),nI (zIu (bs.drop R.p) X)]) hs rfl (.c rfl .n) rfl call129 (zU7 _ _ (bs.drop R.p) gl X _ ((hm.rd0 hb).slcL (l:=R.p) (by omega)) (hm.keep hl (by simpa [zN,blk] using hgl))) rfl (vk K),⟨rfl,by kernel_rfl,fun _=>rfl,rfl,rfl,trivial⟩,fun _=>rfl,?_⟩
 refine goE 2 [] [36,8,7,6,5,0] .n ?_
 refine ifG rfl (fun c_4=>?_) (fun c_4=>?_)
 ·
  refine go 7 [0] [4] (.c .z .n) ⟨rfl,?_⟩
  intro a w hs;exact fin hs rfl rfl (by first | (rw [zCp (by omega)];exact ⟨rfl,rfl⟩) | (rw [zCa (by omega) (by omega)];exact ⟨rfl,rfl⟩) | (rw [zDt (by omega) (by omega) (by omega)];exact ⟨rfl,rfl⟩) | (have he0:R.e = 0:=(by omega);rw [zDF he0 (by omega) (by omega)];simp [he0,nI]))
 have hul:=@zSj (bs.drop R.p) X
 intro a w hs;rw [List.length_drop] at hul
 have hul2:=hul (by omega)
 revert a w hs
 refine go 11 [0,0] [4] (.c .z .n) ⟨rfl,(by omega),rfl,?_⟩
 intro a w hs;exact fin hs rfl rfl (by first | (rw [zCp (by omega)];exact ⟨rfl,rfl⟩) | (rw [zCa (by omega) (by omega)];exact ⟨rfl,rfl⟩) | (rw [zDt (by omega) (by omega) (by omega)];exact ⟨rfl,rfl⟩) | (have he0:R.e = 0:=(by omega);rw [zDF he0 (by omega) (by omega)];simp [he0,nI]))
theorem zEL (X:BitVec 64) (g:Nat) (v:Value) (m:Nat) (bs:List zP) (R:Rs) (w0:World) (hb:Rd w0 [g] v 1 m (zD bs)) (hg:(blk g [v,nI R.p,nI R.e] 165).p w0) (hle:R.p ≤ bs.length):Calls Tryz.prog 85 #[pt g 0,.int .u64 (X.toNat:Int)] w0 (Ret w0 [g] fun u N=>u = .int .u64 (((zO bs X R).1.toNat:Nat):Int) ∧ N = [blk g [v,nI (((zO bs X R).2).p),nI (((zO bs X R).2).e)] 165]):=by
 have hbl:bs.length = m:=by have:=hb.len;simpa [zD] using this
 have hbe:m ≤ maxLen:=hb.le
 simp only [maxLen] at hbe
 refine zF (F0:=[(0,pt g 0),(1,qI X)]) func85 rfl rfl rfl (.c (.c .n)) (zAm hg) ?_
 refine go 4 [0] [6,5] .n (fun g1=>?_)
 intro a w hs;have hgn:=hs.mem.apart .z (.c .z .n)
 refine zG hs (.c rfl (.c rfl .n)) call128 (.c (.s .z) .n) (zTM g1 X g _ _ bs R _ (hs.mem.rd1 hb (.c (.s .z) .n)) (hs.mem.del (.s .z)) (by omega) (hs.mem.del .z) hgn) rfl ?_;clear hs w a hgn;rintro _ _ a w ⟨rfl,rfl⟩ hs
 revert a w hs
 refine goL 1 [] [4] .n ?_
 refine cl (·.drop (.c (.s .z) .n)) ?_
 intro a w hs;exact fin hs rfl rfl ⟨rfl,rfl⟩
theorem zId (g:Nat) (v:Value) (m:Nat) (bs:List zP) (R:Rs) (w0:World) (hb:Rd w0 [g] v 1 m (zD bs)) (hg:(blk g [v,nI R.p,nI R.e] 165).p w0) (hle:R.p ≤ bs.length):Calls Tryz.prog 86 #[pt g 0] w0 (Ret w0 [g] fun u N=>u = zI (zAA bs R).1 ∧ N = [blk g [v,nI (((zAA bs R).2).p),nI (((zAA bs R).2).e)] 165]):=by
 have hbl:bs.length = m:=by have:=hb.len;simpa [zD] using this
 have hbe:m ≤ maxLen:=hb.le
 simp only [maxLen] at hbe
 refine zF (F0:=[(0,pt g 0)]) func86 rfl rfl rfl (.c .n) (zAm hg) ?_
 refine go 2 [] [3] .n ?_
 intro a w hs;refine zAV hs (.c rfl (.c rfl .n)) call85 (.c .z .n) (zEL (18446744073709551615#64) g _ _ bs R _ (hs.mem.rd1 hb (.c .z .n)) (hs.mem.del .z) (by omega)) rfl ?_
 have hk1:=zA0 (X:=18446744073709551615#64) (bs:=bs) (R:=R) (by omega)
 intro a w hs;refine zB (v:=zI (zPW ((zO bs (18446744073709551615#64) R).1))) hs (.c rfl .n) call131 (zZG ((zO bs (18446744073709551615#64) R).1) _) rfl ?_
 have:=zGF ((zO bs (18446744073709551615#64) R).1)
 refine goL 1 [] [2] .n ?_
 intro a w hs;exact fin hs rfl rfl ⟨rfl,rfl⟩
theorem zSF (g:Nat) (v:Value) (m:Nat) (bs:List zP) (R:Rs) (w0:World) (hb:Rd w0 [g] v 1 m (zD bs)) (hg:(blk g [v,nI R.p,nI R.e] 165).p w0) (hle:R.p ≤ bs.length):Calls Tryz.prog 183 #[pt g 0] w0 (Ret w0 [g] fun u N=>u = (.agg #[zI (zAA bs R).1,zI (zAA bs (zAA bs R).2).1,zI (zAA bs (zAA bs (zAA bs R).2).2).1]) ∧ N = [blk g [v,nI ((zY1 bs R).p),nI ((zY1 bs R).e)] 165]):=by
 have hbl:bs.length = m:=by have:=hb.len;simpa [zD] using this
 have hbe:m ≤ maxLen:=hb.le
 simp only [maxLen] at hbe
 refine zF (F0:=[(0,pt g 0)]) func183 rfl rfl rfl (.c .n) (zAm hg) ?_
 refine go 3 [] [5,3,2,0] .n (fun g1=>fun g2=>?_)
 intro a w hs;refine zC2 3 ?_
 revert a w hs
 refine go 6 [] [9,8,5,3,2,0] .n ?_
 intro a w hs;refine zAV hs (.c rfl .n) call86 (.c (.s (.s .z)) .n) (zId  g _ _ bs R _ (hs.mem.rd1 hb (.c (.s (.s .z)) .n)) (hs.mem.del (.s (.s .z))) (by omega)) rfl ?_
 have hk3:=zDG (bs:=bs) (R:=R) (by omega)
 refine goL 4 [0] [5,3,2,0] (.c (.s .z) .n) ⟨rfl,by decide,?_⟩
 intro a w hs;refine zAb ?_
 revert a w hs
 refine go 6 [] [9,8,5,3,2,0] .n ?_
 intro a w hs;refine zAV hs (.c rfl .n) call86 (.c (.s .z) .n) (zId  g _ _ bs ((zAA bs R).2) _ (hs.mem.rd1 hb (.c (.s .z) .n)) (hs.mem.del (.s .z)) (by omega)) rfl ?_
 have hk4:=zDG (bs:=bs) (R:=((zAA bs R).2)) (by omega)
 refine goL 4 [0] [5,3,2,0] (.c (.s .z) .n) ⟨rfl,by decide,?_⟩
 intro a w hs;refine zAb ?_
 revert a w hs
 refine go 6 [] [9,8,5,3,2,0] .n ?_
 intro a w hs;refine zAV hs (.c rfl .n) call86 (.c (.s .z) .n) (zId  g _ _ bs ((zAA bs ((zAA bs R).2)).2) _ (hs.mem.rd1 hb (.c (.s .z) .n)) (hs.mem.del (.s .z)) (by omega)) rfl ?_
 have hk5:=zDG (bs:=bs) (R:=((zAA bs ((zAA bs R).2)).2)) (by omega)
 refine goL 4 [0] [5,3,2,0] (.c (.s .z) .n) ⟨rfl,by decide,?_⟩
 intro a w hs;refine zAb ?_
 revert a w hs
 refine go 4 [0,1] [2] (.c .z (.c (.s .z) .n)) ⟨rfl,rfl,?_⟩
 intro a w hs;exact zLA hs rfl rfl (.s .z) (.z (.c (.c (.c .n)))) isAgg49 sizeOf49 (.c (.s .z) (.c .z .n)) ⟨rfl,rfl⟩
theorem zDk (e:Nat) (g:Nat) (v:Value) (m:Nat) (bs:List zP) (R:Rs) (w0:World) (hb:Rd w0 [g] v 1 m (zD bs)) (hg:(blk g [v,nI R.p,nI R.e] 165).p w0) (hle:R.p ≤ bs.length):Calls Tryz.prog 88 #[pt g 0,nI e] w0 (Ret w0 [g] fun u N=>u = .tuple #[] ∧ N = [blk g [v,nI ((zBj e R).p),nI ((zBj e R).e)] 165]):=by
 have hbl:bs.length = m:=by have:=hb.len;simpa [zD] using this
 have hbe:m ≤ maxLen:=hb.le
 simp only [maxLen] at hbe
 refine zF (F0:=[(0,pt g 0),(1,nI e)]) func88 rfl rfl rfl (.c (.c .n)) (zAm hg) ?_
 refine go 1 [] [4,0,1] .n ?_
 intro a w hs;refine zB (v:=nI R.e) hs (.c rfl .n) call90 (zGp g _ _ bs R _ (hs.rd0 hb) (hs.mem.del .z) (by omega)) rfl ?_
 refine goL 1 [] [6,0,1] .n ?_
 refine ifG rfl (fun c_1=>?_) (fun c_1=>?_)
 ·
  refine go 5 [0] [] (.c .z .n) ⟨rfl,?_⟩
  intro a w hs;exact zIm hs rfl ⟨rfl,by unfold zBj;first | rw [if_pos (by omega)] | rw [if_neg (by omega)]⟩
 refine go 0 [] [] .n ?_
 intro a w hs;exact zIm hs rfl ⟨rfl,by unfold zBj;first | rw [if_pos (by omega)] | rw [if_neg (by omega)]⟩
end Go.Proofs.YtemnjodhidlfpaaGreat
/- Walks of reader: New, the document's, the example: what each function does, over the program of this seat. Printed by a program of this session. -/
namespace Go.Proofs.YtemnjodhidlfpaaGreat
open Tryz
open Go Go.Sx Go.RowKit
set_option linter.unusedVariables false
set_option linter.unusedSimpArgs false
set_option maxRecDepth 4000
set_option maxHeartbeats 1000000

theorem zaE (v:Value) (m:Nat) (bs:List zP) (w0:World) (hb:Rd w0 [] v 1 m (zD bs)):Calls Tryz.prog 41 #[v] w0 (Ret w0 [] fun u N=>∃ g,u = pt g 0 ∧ N = [blk g [v,nI ((⟨0,0⟩ : Rs).p),nI ((⟨0,0⟩ : Rs).e)] 165]):=by
 have hbl:bs.length = m:=by have:=hb.len;simpa [zD] using this
 have hbe:m ≤ maxLen:=hb.le
 simp only [maxLen] at hbe
 refine zF (F0:=[(0,v)]) func41 rfl rfl rfl (.c .n) (Mem.nil _) ?_
 refine go 2 [] [3] .n ?_
 intro a w hs;refine zHq (it:=Tryz.t165) (zs:=[.slice none 0 0,zI 0,zI 0]) (places:=[(0,1),(1,1),(2,1)]) hs (.c rfl .n) underlying165 rfl rfl rfl rfl (.c rfl (hs.rd0 hb).isSl.lcells (.z (.c .n)) .n) rfl ?_
 refine goL 2 [0] [2] .n (fun g1=>?_)
 intro a w hs;exact fin hs rfl rfl ⟨_,rfl,rfl⟩
end Go.Proofs.YtemnjodhidlfpaaGreat
