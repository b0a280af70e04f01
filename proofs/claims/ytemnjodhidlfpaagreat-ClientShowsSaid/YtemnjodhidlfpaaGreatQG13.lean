import Derived.Test.YtemnjodhidlfpaaGreatQG12
import Derived.Test.YtemnjodhidlfpaaGreatQSxStos
import Derived.Test.YtemnjodhidlfpaaGreatQSxBasB
import Derived.Test.YtemnjodhidlfpaaGreatProg
import Derived.KernelRfl
import Derived.Test.YtemnjodhidlfpaaGreatQG9
import Derived.Test.YtemnjodhidlfpaaGreatQSxRecs
/- Walks of iterators and sorts: what each function does, over the program of this seat. Printed by a program of this session. -/
namespace Go.Proofs.YtemnjodhidlfpaaGreat
open Tryz
open Go Go.Sx Go.RowKit Go.Lib Go.Sort
set_option linter.unusedVariables false
set_option linter.unusedSimpArgs false
set_option maxRecDepth 4000
set_option maxHeartbeats 1000000

theorem zOe (x y:zZ) (W:World):Calls Tryz.prog 155 #[.agg #[zI x.id,zI x.p0,zI x.p1,zI x.p2,zI x.v0,zI x.v1,zI x.v2,.int .u16 (((x.a).toNat:Nat):Int),bI x.g],.agg #[zI y.id,zI y.p0,zI y.p1,zI y.p2,zI y.v0,zI y.v1,zI y.v2,.int .u16 (((y.a).toNat:Nat):Int),bI y.g]] W fun e w'=>e = .returned (zI (Lib.compareInt x.id y.id)) ∧ ∃ q os',w' = Sort.grow (W.drewN q) os':=by
 have hcon:=fun W'=>AnyG.cmp_Compare_int Tryz.cmpInt x.id y.id W'
 change ∀ W',Calls Tryz.prog 156 _ _ _ at hcon
 generalize Lib.compareInt x.id y.id = r at hcon ⊢
 go_enter func155,Tryz.ntmps155
 go_wp2_with (go_at_call 156;refine (hcon _).mono ?_;rintro e w' ⟨rfl,rfl⟩)
 go_ret
 exact ⟨rfl,0,_,by rw [alloc_eq_grow,alloc_eq_grow,grow_grow];rfl⟩
theorem zSY {w:World} {v:Value} {m:Nat} {l:List zZ} (hr:(row v 142 9 m (l.flatMap zBN)).p w) (hl:l.length = m) (hm:m ≤ 1000000):Calls Tryz.prog 177 #[v,.func (.func 155) #[] #[]] w (Ret w (zO [row v 142 9 m (l.flatMap zBN)]) fun u N=>u = .tuple #[] ∧ ∃ l':List zZ,(l'.Perm l ∧ l'.Pairwise (fun x y=>x.id ≤ y.id)) ∧ N = [row v 142 9 m (l'.flatMap zBN)]):=by
 have h:=zVy (α:=zZ) Tryz.sortE 9 isAgg142 sizeOf142 zBN zBt (fun x u hu=>by simp only [zBN,List.mem_cons,List.not_mem_nil,or_false] at hu;rcases hu with rfl | rfl | rfl | rfl | rfl | rfl | rfl | rfl | rfl <;> rfl) (fun x y:zZ=>Lib.compareInt x.id y.id) (zX4 (fun x:zZ=>x.id)) 155 call155 (fun W x y=>zOe x y W) hr hl hm
 change Calls Tryz.prog 177 _ _ _ at h
 refine h.mono ?_
 rintro e w' ⟨u,N,rfl,⟨rfl,l',hp,hs,rfl⟩,hM⟩
 refine ⟨_,_,rfl,⟨rfl,l',⟨hp,hs.imp fun h=>?_⟩,rfl⟩,hM⟩
 rw [zNQ] at h
 simp only [decide_eq_false_iff_not] at h
 omega
theorem zVx (g bx L:Nat) (l:List zZ) (R:List zZ → HA → Prop) (X:HA) (w0:World) (hg:(mpr g (ekv l)).p w0) (hb:(blk bx [.map (some g)] 248).p w0) (hX:X.p w0) (hR:R [] X) (hnd:(zO [mpr g (ekv l),blk bx [.map (some g)] 248,X]).Nodup) (hy:zJs Tryz.prog L l R):Calls Tryz.prog 178 #[.func (.yield L) #[] #[],pt bx 0] w0 (Ret w0 (zO [mpr g (ekv l),blk bx [.map (some g)] 248,X]) fun u N=>∃ done X',done.Perm l ∧ R done X' ∧ N = [mpr g (ekv l),blk bx [.map (some g)] 248,X']):=by
 refine enter (F0:=[(0,.func (.yield L) #[] #[]),(1,pt bx 0)]) func178 rfl rfl rfl (.c (.c .n)) (zRl hg hb hX hnd) fun a w hs=>?_
 refine wp_seq_k fun K1 hK2=>?_
 refine wp_region_lit ?_
 refine zLK hs rfl (.s .z) .z isAgg248 rfl ?_;clear hs w a;intro a w hs
 refine zRG hs rfl .z underlying248 rfl ?_;clear hs w a;intro it3 a w hs
 refine wpList_nil ?_
 refine zAr (hK2 _ _ ?_)
 refine wp_block ?_
 refine zJV (fun mm_ a w=>∃ done:List zZ,∃ Y:HA,mm_ = l.length - done.length ∧ St 15 [(0,.func (.yield L) #[] #[]),(1,pt bx 0),(6,pt it3 0)] w0 (zO [mpr g (ekv l),blk bx [.map (some g)] 248,X]) [mit g it3 (ekv l) (ekv done),blk bx [.map (some g)] 248,Y] a w ∧ R done Y) ⟨[],X,rfl,hs.sub (.c rfl (.c rfl (.c rfl .n))),hR⟩ ?_
 clear hs w a;rintro mm_ a w ⟨done,Y,rfl,hs,hI1_0⟩
 refine wp_seq_k fun K4 hK5=>?_
 refine wp_region_lit ?_
 refine zUf hs rfl .z rfl (fun hp6=>?_) (fun x7 hm8 hl9=>?_)
 ·
  clear hs w a;intro a w hs
  refine zG1 hs rfl .z rfl ?_;clear hs w a;intro a w hs
  refine wpList_nil ?_
  refine zAr (hK5 _ _ ?_)
  refine wp_seq_k fun K10 hK11=>?_
  refine wp_cond_false (hs.ev rfl) ?_
  refine wp_exit ?_
  refine zaV ?_
  refine zaV ?_
  refine zPb ?_
  replace hs:=hs.mback .z
  exact zIP hs rfl ⟨_,_,hp6,hI1_0,rfl⟩
 clear hs w a;intro a w hs
 refine zG1 hs rfl .z rfl ?_;clear hs w a;intro a w hs
 refine wpList_nil ?_
 refine zAr (hK5 _ _ ?_)
 refine wp_seq_k fun K12 hK13=>?_
 refine wp_cond_true (hs.ev rfl) ?_
 refine wp_skip ?_
 refine zAr (hK13 _ _ ?_)
 refine wp_block ?_
 refine wp_seq_k fun K14 hK15=>?_
 refine wp_region_lit ?_
 refine zR9 hs rfl .z rfl ?_;clear hs w a;intro a w hs
 refine zG1 hs rfl (.s .z) rfl ?_;clear hs w a;intro a w hs
 refine zCa (cs:=[zI 0,zI 0,zI 0,zI 0,zI 0,zI 0,zI 0,.int .u16 (0),.int .u8 (0)]) hs zeroValue142 rfl rfl ?_;clear hs w a;intro g16 a w hs
 refine zAe hs rfl rfl .z (.z (.c (.c (.c (.c (.c (.c (.c (.c (.c .n)))))))))) (zJ rfl (zJ rfl (zJ rfl (zJ rfl (zJ rfl (zJ rfl (zJ rfl (zJ rfl (zJ rfl zAb))))))))) sizeOf142 rfl ?_;clear hs w a;intro a w hs
 refine wpList_nil ?_
 refine zAr (hK15 _ _ ?_)
 refine wp_seq_k fun K17 hK18=>?_
 refine (wpIn_wide (n:=1)).1 (wpIn_region_lit (zGb (l1:=[_,_]) (r:=none) (fun _ _ h=>by obtain ⟨_,_,h,_⟩:=h;cases h) _ _ (zAv rfl) ?_))
 refine zFl hs rfl rfl ?_;clear hs w a;intro a w hs
 refine zQV hs rfl .z (.z (.c (.c (.c (.c (.c (.c (.c (.c (.c .n)))))))))) isAgg142 sizeOf142 rfl ?_;clear hs w a;intro a w hs
 refine wpList_nil ?_
 show wpListIn _ _ _ _ _ _ _ _
 refine zSj (X:=[Y]) hs rfl (.c rfl .n) (.c (.s (.s (.s .z))) .n) (hy.at hI1_0 hm8 hl9) rfl ?_
 clear hs w a;rintro _ a w ⟨Y2,rfl,hR2⟩ hs;simp only [List.cons_append,List.nil_append] at hs
 refine zQz (fun _ _ h=>by obtain ⟨_,_,h,_⟩:=h;cases h) (zAv rfl) ?_
 refine zVM hs rfl rfl ?_;clear hs w a;intro a w hs
 replace hs:=hs.recell (v':=.bool (false)) (Option.some.inj rfl)
 refine wpList_nil ?_
 refine zAr (hK18 _ _ ?_)
 refine wp_cond_false (hs.ev rfl) ?_
 refine wp_skip ?_
 refine zYg ?_
 refine zAr ?_
 replace hs:=hs.drop (.c (.s .z) .n)
 replace hs:=hs.reorder (.c (.s .z) (.c (.s .z) (.c .z .n)))
 have hal_:(done ++ [x7]).length = done.length + 1:=by simp
 refine ⟨_,?_,_,_,rfl,hs.sub (.c rfl (.c rfl (.c rfl .n))),hR2⟩
 omega
theorem zRF (g bx:Nat) (l:List zZ) (w0:World) (hg:(mpr g (ekv l)).p w0) (hb:(blk bx [.map (some g)] 248).p w0) (hnd:(zO [mpr g (ekv l),blk bx [.map (some g)] 248]).Nodup) (hl:l.length ≤ 100000):Calls Tryz.prog 186 #[.slice none 0 0,.func (.func 178) #[] #[pt bx 0]] w0 (Ret w0 (zO [mpr g (ekv l),blk bx [.map (some g)] 248]) fun u N=>∃ l':List zZ,l'.Perm l ∧ N = [row u 142 9 l'.length (l'.flatMap zBN),mpr g (ekv l),blk bx [.map (some g)] 248]):=by
 refine zVi (F0:=[(0,.slice none 0 0),(1,.func (.func 178) #[] #[pt bx 0])]) func186 rfl rfl rfl (.c (.c .n)) (zD5 hg hb hnd) fun a w hs=>?_
 refine wpIn_seq_k fun K1 hK2=>?_
 refine zBf (fun _ _ h=>by obtain ⟨_,_,h,_⟩:=h;cases h) (zAv rfl) ?_
 refine zI1 (cs:=[.slice none 0 0]) hs rfl rfl rfl ?_;clear hs w a;intro g3 a w hs
 refine zEN hs rfl rfl ?_;clear hs w a;intro a w hs
 refine wpList_nil ?_
 refine zAr (hK2 _ _ ?_)
 refine wpIn_seq_k fun K4 hK5=>?_
 refine wpIn_seq_k fun K6 hK7=>?_
 refine zBf (fun _ _ h=>by obtain ⟨_,_,h,_⟩:=h;cases h) (zAv rfl) ?_
 refine zFl hs rfl rfl ?_;clear hs w a;intro a w hs
 refine wpList_nil ?_
 refine zAr (hK7 _ _ ?_)
 refine wpIn_block ?_
 replace hs:=hs.addNil 142 9
 refine zKQ hs rfl call178 (fun fn D L W rec hrec hm=>?_)
 have hm2:=hm.reorder (X:=[mpr g (ekv l),blk bx [.map (some g)] 248,row (.slice none 0 0) 142 9 ([]:List zZ).length (([]:List zZ).flatMap zBN),blk g3 [.slice none 0 0] 42,obj L (.loop (rec .ready)),obj D (.deferred (some []))]) (.c (.s (.s (.s (.s .z)))) (.c (.s (.s (.s (.s .z)))) (.c (.s (.s .z)) (.c (.s (.s .z)) (.c .z (.c .z .n))))))
 obtain ⟨hp1,hp2,hp3⟩:=Mem.parts (A:=[mpr g (ekv l),blk bx [.map (some g)] 248]) hm2
 have hy:zJs Tryz.prog L l (fun done X=>∃ v,X = zFu [row v 142 9 done.length (done.flatMap zBN),blk g3 [v] 42,obj L (.loop (rec .ready)),obj D (.deferred (some []))]):=by
  rintro done x X W1 ⟨v,rfl⟩ hX hn hx hlt
  have hX2:=(zVe hX).reorder (X:=[obj L (.loop (rec .ready)),row v 142 9 done.length (done.flatMap zBN),blk g3 [v] 42,obj D (.deferred (some []))]) (.c (.s (.s .z)) (.c .z (.c .z (.c .z .n))))
  refine zIf (zT8 (post:=fun N=>∃ v',N = [row v' 142 9 (done ++ [x]).length ((done ++ [x]).flatMap zBN),blk g3 [v'] 42,obj D (.deferred (some []))]) hs hrec rfl rfl hX2 (fun a w hs=>?_)) ?_
  ·
   refine zBf (fun _ _ h=>h) (zAv rfl) ?_
   refine zCa (cs:=[zI 0,zI 0,zI 0,zI 0,zI 0,zI 0,zI 0,.int .u16 (0),.int .u8 (0)]) hs zeroValue142 rfl rfl ?_;clear hs w a;intro g8 a w hs
   refine zAe hs rfl rfl .z (.z (.c (.c (.c (.c (.c (.c (.c (.c (.c .n)))))))))) (zJ rfl (zJ rfl (zJ rfl (zJ rfl (zJ rfl (zJ rfl (zJ rfl (zJ rfl (zJ rfl zAb))))))))) sizeOf142 rfl ?_;clear hs w a;intro a w hs
   refine wpList_nil ?_
   replace hs:=hs.reorder (.c (.s .z) (.c .z (.c .z (.c .z (.c .z .n)))))
   refine ⟨_,_,hs,?_⟩;clear hs;intro w3 hs
   refine wpIn_block (zBf (fun _ _ h=>by cases h.1) (zAv rfl) ?_)
   refine zLK hs rfl (.s (.s (.s .z))) .z isAgg42 rfl ?_;clear hs w a;intro a w hs
   refine zQV hs rfl (.s .z) (.z (.c (.c (.c (.c (.c (.c (.c (.c (.c .n)))))))))) isAgg142 sizeOf142 rfl ?_;clear hs w a;intro a w hs
   refine zIM (cs:=[zI x.id,zI x.p0,zI x.p1,zI x.p2,zI x.v0,zI x.v1,zI x.v2,.int .u16 (((x.a).toNat:Nat):Int),bI x.g]) hs (.c .n) (.c rfl .n) underlying42 (ie:=Tryz.t142) rfl rfl rfl rfl (by decide) (by decide) rfl (by decide) rfl rfl rfl ?_;clear hs w a;intro g9 a w hs
   refine zBF (size:=9) (bytes:=64) hs rfl rfl (.s (.s (.s .z))) (zAJ (m:=1) (size:=9) (hs.mem.del .z) rfl (by decide)) (by simp [Value.oneCell']) underlying42 (i:=Tryz.t142) rfl rfl rfl rfl rfl (by decide) (by omega) (by simp only [maxLen];omega) rfl ?_;clear hs w a;intro v10 a w hs
   replace hs:=hs.drop (.c (.s .z) .n)
   refine zBX hs rfl rfl (.s (.s (.s .z))) .z (zL (hs.mem.del .z)).isSl.one sizeOf42 ?_;clear hs w a;intro a w hs
   replace hs:=hs.rerow (.s .z) (m':=(done ++ [x]).length) (xs':=((done ++ [x]).flatMap zBN)) (by rw [List.length_append];rfl) (by rw [List.flatMap_append];rfl)
   replace hs:=hs.drop (.c (.s (.s (.s .z))) .n)
   replace hs:=hs.reorder (.c (.s (.s .z)) (.c .z (.c .z (.c .z .n))))
   refine wpList_nil ?_
   exact ⟨rfl,_,⟨v10,rfl⟩,hs.mem⟩
  rintro e W' ⟨rfl,N,⟨v',rfl⟩,hM⟩
  exact ⟨rfl,_,⟨_,rfl,v',rfl⟩,(hM.reorder (.c (.s .z) (.c (.s .z) (.c .z (.c .z .n))))).sep⟩
 refine (zVx g bx L l (fun done X=>∃ v,X = zFu [row v 142 9 done.length (done.flatMap zBN),blk g3 [v] 42,obj L (.loop (rec .ready)),obj D (.deferred (some []))]) _ W (hp1 _ (by simp)) (hp1 _ (by simp)) hp2 ⟨_,rfl⟩ hp3 hy).mono ?_
 rintro e W' ⟨u,N,rfl,⟨done,X',hp,⟨v,rfl⟩,rfl⟩,hM⟩
 have hM2:=hm2.frame (X:=[mpr g (ekv l),blk bx [.map (some g)] 248] ++ [row (.slice none 0 0) 142 9 ([]:List zZ).length (([]:List zZ).flatMap zBN),blk g3 [.slice none 0 0] 42,obj L (.loop (rec .ready)),obj D (.deferred (some []))]) (.c .z (.c .z (.c .z (.c .z (.c .z (.c .z .n)))))) (Mem.unsep2 (A:=[mpr g (ekv l),blk bx [.map (some g)] 248]) (A':=[mpr g (ekv l),blk bx [.map (some g)] 248]) hM)
 refine ⟨⟨_,rfl⟩,[row v 142 9 done.length (done.flatMap zBN),mpr g (ekv l),blk bx [.map (some g)] 248,blk g3 [v] 42],hM2.reorder (.c (.s (.s (.s (.s .z)))) (.c (.s (.s (.s (.s .z)))) (.c (.s (.s .z)) (.c .z (.c .z (.c .z .n)))))),fun W2 hM3=>?_⟩
 refine zYg ?_
 refine zAr (hK5 _ _ ?_)
 refine wpIn_seq_k fun K9 hK9=>?_
 refine wpIn_region_lit ?_
 have hB:W2.heap[g3]? = some (.cells [v].toArray 42 (0,0)):=hM3.all (blk g3 [v] 42) (by simp)
 have ha2:=hs.agr 2 _ rfl
 have hz:=hs.size
 refine zI9 (v:=v) (w':=W2) rfl (by intro c h;cases h) (zXf (g:=g3) (i:=0) (by simp [Act.eval,Array.getD_eq_getD_getElem?,ha2]) hB .z isAgg42) ?_
 refine zI9 (v:=v) (w':=W2) rfl (by intro c h;cases h) (by simp [execOp,Act.eval,Act.put,Array.getD_eq_getD_getElem?,hz]) ?_
 refine zAr (hK9 _ _ ?_)
 refine wpIn_ret ?_
 rw [hs.dfr]
 refine zZq (v:=v) rfl (by simp [Act.put,Array.getD_eq_getD_getElem?,hz]) (hM3.all (obj D (.deferred (some []))) (by simp)) ?_
 have hM4:=(hM3.frame (X:=[obj D (.deferred (some []))]) (.c (.s .z) .n) (zDL (o':=.deferred none) (hM3.all (obj D (.deferred (some []))) (by simp)))).drop (X:=[obj D (.deferred none),obj L (.loop (rec .exhausted)),blk g3 [v] 42]) (.c .z (.c .z (.c (.s (.s (.s .z))) .n)))
 exact ⟨_,_,rfl,⟨done,hp,rfl⟩,hM4⟩
end Go.Proofs.YtemnjodhidlfpaaGreat
/- Walks of times: what each function does, over the program of this seat. Printed by a program of this session. -/
namespace Go.Proofs.YtemnjodhidlfpaaGreat
open Tryz
open Go Go.Sx Go.RowKit
set_option linter.unusedVariables false
set_option linter.unusedSimpArgs false
set_option maxRecDepth 4000
set_option maxHeartbeats 1000000

theorem zLD (x:Int) (w0:World):Calls Tryz.prog 87 #[.int .i64 x] w0 (zAj w0 (.bool (decide (-2305843009213693952 ≤ x ∧ x ≤ 2305843009213693952)))):=by
 refine zG (F0:=[(0,zI x)]) func87 rfl rfl rfl (.c .n) (Mem.nil _) ?_
 refine go 4 [] [5,0] .n ?_
 intro a w hs;refine zW (b:=decide ((-2305843009213693952) ≤ x)) (fun c_1=>?_) (fun c_1=>?_)
 ·
  rw [c_1] at hs
  replace c_1:=of_decide_eq_true c_1
  revert a w hs
  refine go 4 [] [2] .n ?_
  intro a w hs;exact fin hs rfl rfl ⟨congrArg Value.bool (by first | (rw [decide_eq_decide];omega) | (symm;rw [decide_eq_false_iff_not];omega)),rfl⟩
 rw [c_1] at hs
 replace c_1:=of_decide_eq_false c_1
 revert a w hs
 refine go 4 [] [2] .n ?_
 intro a w hs;exact fin hs rfl rfl ⟨congrArg Value.bool (by first | (rw [decide_eq_decide];omega) | (symm;rw [decide_eq_false_iff_not];omega)),rfl⟩
end Go.Proofs.YtemnjodhidlfpaaGreat
/- Walks of reader: what each function does, over the program of this seat. Printed by a program of this session. -/
namespace Go.Proofs.YtemnjodhidlfpaaGreat
open Tryz
open Go Go.Sx Go.RowKit
set_option linter.unusedVariables false
set_option linter.unusedSimpArgs false
set_option maxRecDepth 4000
set_option maxHeartbeats 1000000

theorem zGP (g:Nat) (v:Value) (m:Nat) (bs:List zQ) (R:Rs) (w0:World) (hb:Rd w0 [] v 1 m (zC bs)) (hg:(blk g [v,nI R.p,nI R.e] 165).p w0) (hle:R.p ≤ bs.length):Calls Tryz.prog 90 #[pt g 0] w0 (zAj w0 (nI R.e)):=by
 have hbl:bs.length = m:=by have:=hb.len;simpa [zC] using this
 have hbe:m ≤ maxLen:=hb.le
 simp only [maxLen] at hbe
 refine zG (F0:=[(0,pt g 0)]) func90 rfl rfl rfl (.c .n) (Mem.nil _) ?_
 refine go 7 [] [7] .n ?_
 intro a w hs;refine zX hs rfl (hs.mem.keep hg (by simp [zO,blk])) (.s (.s .z)) isAgg26 rfl ?_
 refine goL 1 [] [2] .n ?_
 intro a w hs;exact fin hs rfl rfl ⟨rfl,rfl⟩
theorem zKE (g:Nat) (v:Value) (m:Nat) (bs:List zQ) (R:Rs) (w0:World) (hb:Rd w0 [] v 1 m (zC bs)) (hg:(blk g [v,nI R.p,nI R.e] 165).p w0) (hle:R.p ≤ bs.length):Calls Tryz.prog 91 #[pt g 0] w0 (zAj w0 (nI (bs.length - R.p))):=by
 have hbl:bs.length = m:=by have:=hb.len;simpa [zC] using this
 have hbe:m ≤ maxLen:=hb.le
 simp only [maxLen] at hbe
 refine zG (F0:=[(0,pt g 0)]) func91 rfl rfl rfl (.c .n) (Mem.nil _) ?_
 refine go 4 [] [0] .n ?_
 intro a w hs
 refine zS [.p [] [],.p [0] [],.p [1] [],.v [2] v,.v [3] (zI (m:Int)),.p [] [],.p [5] [],.p [6] [],.v [7] (nI R.p),.p [8,4] [],.p [9] []] [10] hs .n .n (by kernel_rfl) ⟨fun _ _ _ _ hm hs K=>zX hs rfl (hm.keep hg (by simp [zO,blk])) .z isAgg31 rfl (vk K),fun _ _ _ _ hm hs K=>zAD hs rfl (hm.rd0 hb).isSl underlying31 rfl (vk K),fun _ _ _ _ hm hs K=>zX hs rfl (hm.keep hg (by simp [zO,blk])) (.s .z) isAgg3 rfl (vk K),(by omega),⟨rfl,by kernel_rfl,fun _=>rfl,rfl,rfl,trivial⟩,fun _=>rfl,?_⟩
 refine goE 0 [] [2] .n ?_
 intro a w hs;exact fin hs rfl rfl ⟨congrArg (Value.int .i64) (by omega),rfl⟩
theorem zUM (g:Nat) (v:Value) (m:Nat) (bs:List zQ) (R:Rs) (w0:World) (hb:Rd w0 [] v 1 m (zC bs)) (hg:(blk g [v,nI R.p,nI R.e] 165).p w0) (hle:R.p ≤ bs.length):Calls Tryz.prog 46 #[pt g 0] w0 (zAj w0 (nI (zIT bs R))):=by
 have hbl:bs.length = m:=by have:=hb.len;simpa [zC] using this
 have hbe:m ≤ maxLen:=hb.le
 simp only [maxLen] at hbe
 refine zG (F0:=[(0,pt g 0)]) func46 rfl rfl rfl (.c .n) (Mem.nil _) ?_
 refine go 2 [] [4,0] .n ?_
 intro a w hs;refine zB (v:=nI R.e) hs (.c rfl .n) call90 (zGP g _ _ bs R _ (hs.rd0 hb) (hs.mem.keep hg (by simp [zO,blk])) (by omega)) rfl ?_
 refine goL 4 [] [8,3,0] .n ?_
 intro a w hs;refine zW (b:=!((((R.e:Nat):Int):Int) == 0)) (fun c_1=>?_) (fun c_1=>?_)
 ·
  rw [c_1] at hs
  replace c_1:=zFV c_1
  replace c_1:=zAQ c_1
  revert a w hs
  refine go 7 [] [2] .n ?_
  intro a w hs;exact fin hs rfl rfl ⟨congrArg (Value.int .i64) (by unfold zIT;first | rw [if_pos (by omega)] | rw [if_neg (by omega)];rfl),rfl⟩
 rw [c_1] at hs
 replace c_1:=zFM c_1
 replace c_1:=eq_of_beq c_1
 revert a w hs
 refine go 1 [] [9,8,3] .n ?_
 intro a w hs;refine zF hs rfl rfl rfl ?_
 refine zB (v:=nI (bs.length - R.p)) hs (.c rfl .n) call91 (zKE g _ _ bs R _ (hs.rd0 hb) (hs.mem.keep hg (by simp [zO,blk])) (by omega)) rfl ?_
 refine goL 2 [] [12,3] .n ?_
 refine ifG rfl (fun c_2=>?_) (fun c_2=>?_)
 ·
  refine go 2 [] [2] .n ?_
  intro a w hs;exact fin hs rfl rfl ⟨congrArg (Value.int .i64) (by unfold zIT;first | rw [if_pos (by omega)] | rw [if_neg (by omega)];rfl),rfl⟩
 refine go 1 [] [2] .n ?_
 intro a w hs;exact fin hs rfl rfl ⟨congrArg (Value.int .i64) (by unfold zIT;first | rw [if_pos (by omega)] | rw [if_neg (by omega)];rfl),rfl⟩
theorem zTB (v:Value) (m:Nat) (bs:List zQ) (w0:World) (hb:Rd w0 [] v 1 m (zC bs)) (h0:0 < m):Calls Tryz.prog 162 #[v] w0 (zAj w0 (.tuple #[bI (bs.getD 0 0),.int .i64 1,.int .i64 0])):=by
 have hbl:bs.length = m:=by have:=hb.len;simpa [zC] using this
 have hbe:m ≤ maxLen:=hb.le
 simp only [maxLen] at hbe
 refine zG (F0:=[(0,v)]) func162 rfl rfl rfl (.c .n) (Mem.nil _) ?_
 refine go 4 [] [5] .n ?_
 intro a w hs;refine zAy (j:=0) hs rfl rfl (hs.rd0 hb) (by decide) (by omega) underlying31 sizeOf5 rfl ?_
 intro a w hs;refine zBS hs rfl (hs.rd0 hb) (zB3 bs (by first | omega | (simp;omega))) isAgg5 rfl ?_
 refine goL 3 [] [4,3,2] .n ?_
 intro a w hs;exact zEz hs rfl rfl rfl rfl ⟨rfl,rfl⟩
theorem zUh (v:Value) (m:Nat) (bs:List zQ) (gl:Nat) (X:BitVec 64) (w0:World) (hb:Rd w0 [] v 1 m (zC bs)) {tl:TypeId} (hl:(blk gl [.int .u64 (X.toNat:Int)] tl).p w0):Calls Tryz.prog 129 #[v,pt gl 0] w0 (zAj w0 (.tuple #[.int .u64 (((zCN bs).1.toNat:Nat):Int),nI ((zCN bs).2.1),nI (zIX bs X)])):=by
 have hbl:bs.length = m:=by have:=hb.len;simpa [zC] using this
 have hbe:m ≤ maxLen:=hb.le
 simp only [maxLen] at hbe
 refine zG (F0:=[(0,v),(1,pt gl 0)]) func129 rfl rfl rfl (.c (.c .n)) (Mem.nil _) ?_
 refine go 4 [] [10,1] .n ?_
 intro a w hs;refine zB (v:=.tuple #[qI ((zCN bs).1),nI ((zCN bs).2.1),nI ((zCN bs).2.2)]) hs (.c rfl .n) call130 (zaA _ _ bs _ (hs.rd0 hb)) rfl ?_
 refine goL 10 [] [17,8,7,6,1] .n ?_
 intro a w hs;refine zW (b:=((((zCN bs).2.2:Nat):Int):Int) == 0) (fun c_1=>?_) (fun c_1=>?_)
 ·
  rw [c_1] at hs
  replace c_1:=eq_of_beq c_1
  revert a w hs
  refine go 1 [] [18,17,8,7,6,1] .n ?_
  intro a w hs;refine zF hs rfl rfl rfl ?_
  refine zX hs rfl (hs.mem.keep hl (by simp [zO,blk])) .z isAgg167 rfl ?_
  refine goL 2 [] [21,8,7,6] .n ?_
  refine ifG rfl (fun c_2=>?_) (fun c_2=>?_)
  ·
   refine go 7 [] [5,4,3] .n ?_
   intro a w hs;exact zEz hs rfl rfl rfl rfl ⟨by unfold zIX;first | (rw [if_pos (by omega)];rfl) | (rw [if_neg (by omega)]),rfl⟩
  refine go 6 [] [5,4,3] .n ?_
  intro a w hs;exact zEz hs rfl rfl rfl rfl ⟨by unfold zIX;first | (rw [if_pos (by omega)];rfl) | (rw [if_neg (by omega)]),rfl⟩
 rw [c_1] at hs
 replace c_1:=zAQ c_1
 revert a w hs
 refine go 11 [] [5,4,3] .n ?_
 intro a w hs;exact zEz hs rfl rfl rfl rfl ⟨by unfold zIX;first | (rw [if_pos (by omega)];rfl) | (rw [if_neg (by omega)]),rfl⟩
theorem zT0 (g:Nat) (v:Value) (m:Nat) (bs:List zQ) (R:Rs) (w0:World) (hb:Rd w0 [g] v 1 m (zC bs)) (hg:(blk g [v,nI R.p,nI R.e] 165).p w0) (hle:R.p ≤ bs.length):Calls Tryz.prog 161 #[pt g 0,.func (.func 162) #[] #[]] w0 (Ret w0 [g] fun u N=>u = .int .u8 (((zH bs R).1.toNat:Nat):Int) ∧ N = [blk g [v,nI (((zH bs R).2).p),nI (((zH bs R).2).e)] 165]):=by
 have hbl:bs.length = m:=by have:=hb.len;simpa [zC] using this
 have hbe:m ≤ maxLen:=hb.le
 simp only [maxLen] at hbe
 refine zG (F0:=[(0,pt g 0),(1,.func (.func 162) #[] #[])]) func161 rfl rfl rfl (.c (.c .n)) (zAl hg) ?_
 refine go 3 [] [9,5,0,1] .n ?_
 intro a w hs;refine zB (v:=nI R.e) hs (.c rfl .n) call90 (zGP g _ _ bs R _ (hs.rd0 hb) (hs.mem.del .z) (by omega)) rfl ?_
 refine goL 1 [] [11,5,0,1] .n ?_
 refine ifG rfl (fun c_1=>?_) (fun c_1=>?_)
 ·
  refine go 2 [] [4] .n ?_
  intro a w hs;exact fin hs rfl rfl (by first | (rw [zDo (by omega)];exact ⟨rfl,rfl⟩) | (rw [zDD (by omega) (by omega)];exact ⟨rfl,rfl⟩) | (have he0:R.e = 0:=(by omega);rw [zDn he0 (by omega)];simp [he0,nI]))
 refine go 1 [] [13,5,0,1] .n ?_
 intro a w hs;refine zB (v:=nI (bs.length - R.p)) hs (.c rfl .n) call91 (zKE g _ _ bs R _ (hs.rd0 hb) (hs.mem.del .z) (by omega)) rfl ?_
 refine goL 1 [] [15,5,0,1] .n ?_
 refine ifG rfl (fun c_2=>?_) (fun c_2=>?_)
 ·
  refine go 6 [0] [4] (.c .z .n) ⟨rfl,?_⟩
  intro a w hs;exact fin hs rfl rfl (by first | (rw [zDo (by omega)];exact ⟨rfl,rfl⟩) | (rw [zDD (by omega) (by omega)];exact ⟨rfl,rfl⟩) | (have he0:R.e = 0:=(by omega);rw [zDn he0 (by omega)];simp [he0,nI]))
 refine go 0 [] [5,0,1] .n ?_
 intro a w hs
 refine zS [.p [] [],.p [] [],.p [1] [],.p [2] [],.p [3] [0],.p [] [],.p [5] [],.p [6] [],.p [7] [0],.v [8,4] (zFa v 1 R.p m),.v [9,0] (.tuple #[bI ((bs.drop R.p).getD 0 0),zI 1,zI 0]),.p [10] [],.p [11] [],.p [11] [],.p [11] [],.p [12] [],.p [13] [],.p [14] []] [15,16,17] hs .n (.c .z .n) (by kernel_rfl) ⟨rfl,rfl,fun _ _ _ _ hm hs K=>zIK (j:=R.p) hs rfl rfl rfl (hm.rd0 hb).isSl (by omega) underlying31 sizeOf5 rfl (vk K),fun _ _ _ _ hm hs K=>zBb (us:=[]) (v:=.tuple #[bI ((bs.drop R.p).getD 0 0),zI 1,zI 0]) hs rfl (.c rfl .n) rfl call162 (zTB _ _ (bs.drop R.p) _ ((hm.rd0 hb).slcL (l:=R.p) (by omega)) (by omega)) rfl (vk K),⟨rfl,by kernel_rfl,fun _=>rfl,rfl,rfl,trivial⟩,fun _=>rfl,?_⟩
 refine goE 14 [0,0] [4] (.c .z .n) ⟨rfl,(by omega),rfl,?_⟩
 intro a w hs;exact fin hs rfl rfl (by first | (rw [zDo (by omega)];exact ⟨rfl,rfl⟩) | (rw [zDD (by omega) (by omega)];exact ⟨rfl,rfl⟩) | (have he0:R.e = 0:=(by omega);rw [zDn he0 (by omega)];simp [he0,nI]))
theorem zJQ (g:Nat) (v:Value) (m:Nat) (bs:List zQ) (R:Rs) (w0:World) (hb:Rd w0 [g] v 1 m (zC bs)) (hg:(blk g [v,nI R.p,nI R.e] 165).p w0) (hle:R.p ≤ bs.length):Calls Tryz.prog 127 #[pt g 0] w0 (Ret w0 [g] fun u N=>u = .int .u8 (((zH bs R).1.toNat:Nat):Int) ∧ N = [blk g [v,nI (((zH bs R).2).p),nI (((zH bs R).2).e)] 165]):=by
 have hbl:bs.length = m:=by have:=hb.len;simpa [zC] using this
 have hbe:m ≤ maxLen:=hb.le
 simp only [maxLen] at hbe
 refine zG (F0:=[(0,pt g 0)]) func127 rfl rfl rfl (.c .n) (zAl hg) ?_
 refine go 2 [] [3] .n ?_
 intro a w hs;refine zAX hs (.c rfl (.c rfl .n)) call161 (.c .z .n) (zT0  g _ _ bs R _ (hs.mem.rd1 hb (.c .z .n)) (hs.mem.del .z) (by omega)) rfl ?_
 have hk1:=zD9 (bs:=bs) (R:=R) (by omega)
 refine goL 1 [] [2] .n ?_
 intro a w hs;exact fin hs rfl rfl ⟨rfl,rfl⟩
theorem zTO (gl:Nat) (X:BitVec 64) (g:Nat) (v:Value) (m:Nat) (bs:List zQ) (R:Rs) (w0:World) (hb:Rd w0 [g] v 1 m (zC bs)) (hg:(blk g [v,nI R.p,nI R.e] 165).p w0) (hle:R.p ≤ bs.length) {tl:TypeId} (hl:(blk gl [.int .u64 (X.toNat:Int)] tl).p w0) (hgl:gl ≠ g):Calls Tryz.prog 128 #[pt g 0,.func (.func 129) #[] #[pt gl 0]] w0 (Ret w0 [g] fun u N=>u = .int .u64 (((zP bs X R).1.toNat:Nat):Int) ∧ N = [blk g [v,nI (((zP bs X R).2).p),nI (((zP bs X R).2).e)] 165]):=by
 have hbl:bs.length = m:=by have:=hb.len;simpa [zC] using this
 have hbe:m ≤ maxLen:=hb.le
 simp only [maxLen] at hbe
 refine zG (F0:=[(0,pt g 0),(1,.func (.func 129) #[] #[pt gl 0])]) func128 rfl rfl rfl (.c (.c .n)) (zAl hg) ?_
 refine go 3 [] [9,5,0,1] .n ?_
 intro a w hs;refine zB (v:=nI R.e) hs (.c rfl .n) call90 (zGP g _ _ bs R _ (hs.rd0 hb) (hs.mem.del .z) (by omega)) rfl ?_
 refine goL 1 [] [11,5,0,1] .n ?_
 refine ifG rfl (fun c_1=>?_) (fun c_1=>?_)
 ·
  refine go 2 [] [4] .n ?_
  intro a w hs;exact fin hs rfl rfl (by first | (rw [zCg (by omega)];exact ⟨rfl,rfl⟩) | (rw [zCV (by omega) (by omega)];exact ⟨rfl,rfl⟩) | (rw [zDm (by omega) (by omega) (by omega)];exact ⟨rfl,rfl⟩) | (have he0:R.e = 0:=(by omega);rw [zC8 he0 (by omega) (by omega)];simp [he0,nI]))
 refine go 1 [] [13,5,0,1] .n ?_
 intro a w hs;refine zB (v:=nI (bs.length - R.p)) hs (.c rfl .n) call91 (zKE g _ _ bs R _ (hs.rd0 hb) (hs.mem.del .z) (by omega)) rfl ?_
 refine goL 1 [] [15,5,0,1] .n ?_
 refine ifG rfl (fun c_2=>?_) (fun c_2=>?_)
 ·
  refine go 6 [0] [4] (.c .z .n) ⟨rfl,?_⟩
  intro a w hs;exact fin hs rfl rfl (by first | (rw [zCg (by omega)];exact ⟨rfl,rfl⟩) | (rw [zCV (by omega) (by omega)];exact ⟨rfl,rfl⟩) | (rw [zDm (by omega) (by omega) (by omega)];exact ⟨rfl,rfl⟩) | (have he0:R.e = 0:=(by omega);rw [zC8 he0 (by omega) (by omega)];simp [he0,nI]))
 refine go 0 [] [5,0,1] .n ?_
 intro a w hs
 refine zS [.p [] [],.p [] [],.p [1] [],.p [2] [],.p [3] [0],.p [] [],.p [5] [],.p [6] [],.p [7] [0],.v [8,4] (zFa v 1 R.p m),.v [9,0] (.tuple #[qI ((zCN (bs.drop R.p)).1),nI ((zCN (bs.drop R.p)).2.1),nI (zIX (bs.drop R.p) X)]),.p [10] [],.p [11] [],.p [11] [],.p [11] [],.p [12] [],.p [13] [],.p [14] []] [15,16,17] hs .n (.c .z .n) (by kernel_rfl) ⟨rfl,rfl,fun _ _ _ _ hm hs K=>zIK (j:=R.p) hs rfl rfl rfl (hm.rd0 hb).isSl (by omega) underlying31 sizeOf5 rfl (vk K),fun _ _ _ _ hm hs K=>zBb (us:=[pt gl 0]) (v:=.tuple #[qI ((zCN (bs.drop R.p)).1),nI ((zCN (bs.drop R.p)).2.1),nI (zIX (bs.drop R.p) X)]) hs rfl (.c rfl .n) rfl call129 (zUh _ _ (bs.drop R.p) gl X _ ((hm.rd0 hb).slcL (l:=R.p) (by omega)) (hm.keep hl (by simpa [zO,blk] using hgl))) rfl (vk K),⟨rfl,by kernel_rfl,fun _=>rfl,rfl,rfl,trivial⟩,fun _=>rfl,?_⟩
 refine goE 2 [] [36,8,7,6,5,0] .n ?_
 refine ifG rfl (fun c_4=>?_) (fun c_4=>?_)
 ·
  refine go 7 [0] [4] (.c .z .n) ⟨rfl,?_⟩
  intro a w hs;exact fin hs rfl rfl (by first | (rw [zCg (by omega)];exact ⟨rfl,rfl⟩) | (rw [zCV (by omega) (by omega)];exact ⟨rfl,rfl⟩) | (rw [zDm (by omega) (by omega) (by omega)];exact ⟨rfl,rfl⟩) | (have he0:R.e = 0:=(by omega);rw [zC8 he0 (by omega) (by omega)];simp [he0,nI]))
 have hul:=@zR7 (bs.drop R.p) X
 intro a w hs;rw [List.length_drop] at hul
 have hul2:=hul (by omega)
 revert a w hs
 refine go 11 [0,0] [4] (.c .z .n) ⟨rfl,(by omega),rfl,?_⟩
 intro a w hs;exact fin hs rfl rfl (by first | (rw [zCg (by omega)];exact ⟨rfl,rfl⟩) | (rw [zCV (by omega) (by omega)];exact ⟨rfl,rfl⟩) | (rw [zDm (by omega) (by omega) (by omega)];exact ⟨rfl,rfl⟩) | (have he0:R.e = 0:=(by omega);rw [zC8 he0 (by omega) (by omega)];simp [he0,nI]))
theorem zD6 (X:BitVec 64) (g:Nat) (v:Value) (m:Nat) (bs:List zQ) (R:Rs) (w0:World) (hb:Rd w0 [g] v 1 m (zC bs)) (hg:(blk g [v,nI R.p,nI R.e] 165).p w0) (hle:R.p ≤ bs.length):Calls Tryz.prog 85 #[pt g 0,.int .u64 (X.toNat:Int)] w0 (Ret w0 [g] fun u N=>u = .int .u64 (((zP bs X R).1.toNat:Nat):Int) ∧ N = [blk g [v,nI (((zP bs X R).2).p),nI (((zP bs X R).2).e)] 165]):=by
 have hbl:bs.length = m:=by have:=hb.len;simpa [zC] using this
 have hbe:m ≤ maxLen:=hb.le
 simp only [maxLen] at hbe
 refine zG (F0:=[(0,pt g 0),(1,qI X)]) func85 rfl rfl rfl (.c (.c .n)) (zAl hg) ?_
 refine go 4 [0] [6,5] .n (fun g1=>?_)
 intro a w hs;have hgn:=hs.mem.apart .z (.c .z .n)
 refine zM hs (.c rfl (.c rfl .n)) call128 (.c (.s .z) .n) (zTO g1 X g _ _ bs R _ (hs.mem.rd1 hb (.c (.s .z) .n)) (hs.mem.del (.s .z)) (by omega) (hs.mem.del .z) hgn) rfl ?_;clear hs w a hgn;rintro _ _ a w ⟨rfl,rfl⟩ hs
 revert a w hs
 refine goL 1 [] [4] .n ?_
 refine cl (·.drop (.c (.s .z) .n)) ?_
 intro a w hs;exact fin hs rfl rfl ⟨rfl,rfl⟩
theorem zHS (g:Nat) (v:Value) (m:Nat) (bs:List zQ) (R:Rs) (w0:World) (hb:Rd w0 [g] v 1 m (zC bs)) (hg:(blk g [v,nI R.p,nI R.e] 165).p w0) (hle:R.p ≤ bs.length):Calls Tryz.prog 86 #[pt g 0] w0 (Ret w0 [g] fun u N=>u = zI (zAA bs R).1 ∧ N = [blk g [v,nI (((zAA bs R).2).p),nI (((zAA bs R).2).e)] 165]):=by
 have hbl:bs.length = m:=by have:=hb.len;simpa [zC] using this
 have hbe:m ≤ maxLen:=hb.le
 simp only [maxLen] at hbe
 refine zG (F0:=[(0,pt g 0)]) func86 rfl rfl rfl (.c .n) (zAl hg) ?_
 refine go 2 [] [3] .n ?_
 intro a w hs;refine zAX hs (.c rfl (.c rfl .n)) call85 (.c .z .n) (zD6 (18446744073709551615#64) g _ _ bs R _ (hs.mem.rd1 hb (.c .z .n)) (hs.mem.del .z) (by omega)) rfl ?_
 have hk1:=zA1 (X:=18446744073709551615#64) (bs:=bs) (R:=R) (by omega)
 intro a w hs;refine zB (v:=zI (zN2 ((zP bs (18446744073709551615#64) R).1))) hs (.c rfl .n) call131 (zaJ ((zP bs (18446744073709551615#64) R).1) _) rfl ?_
 have:=zFr ((zP bs (18446744073709551615#64) R).1)
 refine goL 1 [] [2] .n ?_
 intro a w hs;exact fin hs rfl rfl ⟨rfl,rfl⟩
theorem zPs (g:Nat) (v:Value) (m:Nat) (bs:List zQ) (R:Rs) (w0:World) (hb:Rd w0 [g] v 1 m (zC bs)) (hg:(blk g [v,nI R.p,nI R.e] 165).p w0) (hle:R.p ≤ bs.length):Calls Tryz.prog 183 #[pt g 0] w0 (Ret w0 [g] fun u N=>u = (.agg #[zI (zAA bs R).1,zI (zAA bs (zAA bs R).2).1,zI (zAA bs (zAA bs (zAA bs R).2).2).1]) ∧ N = [blk g [v,nI ((zYV bs R).p),nI ((zYV bs R).e)] 165]):=by
 have hbl:bs.length = m:=by have:=hb.len;simpa [zC] using this
 have hbe:m ≤ maxLen:=hb.le
 simp only [maxLen] at hbe
 refine zG (F0:=[(0,pt g 0)]) func183 rfl rfl rfl (.c .n) (zAl hg) ?_
 refine go 3 [] [5,3,2,0] .n (fun g1=>fun g2=>?_)
 intro a w hs;refine zCt 3 ?_
 revert a w hs
 refine go 6 [] [9,8,5,3,2,0] .n ?_
 intro a w hs;refine zAX hs (.c rfl .n) call86 (.c (.s (.s .z)) .n) (zHS  g _ _ bs R _ (hs.mem.rd1 hb (.c (.s (.s .z)) .n)) (hs.mem.del (.s (.s .z))) (by omega)) rfl ?_
 have hk3:=zDJ (bs:=bs) (R:=R) (by omega)
 refine goL 4 [0] [5,3,2,0] (.c (.s .z) .n) ⟨rfl,by decide,?_⟩
 intro a w hs;refine zAa ?_
 revert a w hs
 refine go 6 [] [9,8,5,3,2,0] .n ?_
 intro a w hs;refine zAX hs (.c rfl .n) call86 (.c (.s .z) .n) (zHS  g _ _ bs ((zAA bs R).2) _ (hs.mem.rd1 hb (.c (.s .z) .n)) (hs.mem.del (.s .z)) (by omega)) rfl ?_
 have hk4:=zDJ (bs:=bs) (R:=((zAA bs R).2)) (by omega)
 refine goL 4 [0] [5,3,2,0] (.c (.s .z) .n) ⟨rfl,by decide,?_⟩
 intro a w hs;refine zAa ?_
 revert a w hs
 refine go 6 [] [9,8,5,3,2,0] .n ?_
 intro a w hs;refine zAX hs (.c rfl .n) call86 (.c (.s .z) .n) (zHS  g _ _ bs ((zAA bs ((zAA bs R).2)).2) _ (hs.mem.rd1 hb (.c (.s .z) .n)) (hs.mem.del (.s .z)) (by omega)) rfl ?_
 have hk5:=zDJ (bs:=bs) (R:=((zAA bs ((zAA bs R).2)).2)) (by omega)
 refine goL 4 [0] [5,3,2,0] (.c (.s .z) .n) ⟨rfl,by decide,?_⟩
 intro a w hs;refine zAa ?_
 revert a w hs
 refine go 4 [0,1] [2] (.c .z (.c (.s .z) .n)) ⟨rfl,rfl,?_⟩
 intro a w hs;exact zLe hs rfl rfl (.s .z) (.z (.c (.c (.c .n)))) isAgg49 sizeOf49 (.c (.s .z) (.c .z .n)) ⟨rfl,rfl⟩
theorem zDc (e:Nat) (g:Nat) (v:Value) (m:Nat) (bs:List zQ) (R:Rs) (w0:World) (hb:Rd w0 [g] v 1 m (zC bs)) (hg:(blk g [v,nI R.p,nI R.e] 165).p w0) (hle:R.p ≤ bs.length):Calls Tryz.prog 88 #[pt g 0,nI e] w0 (Ret w0 [g] fun u N=>u = .tuple #[] ∧ N = [blk g [v,nI ((zBh e R).p),nI ((zBh e R).e)] 165]):=by
 have hbl:bs.length = m:=by have:=hb.len;simpa [zC] using this
 have hbe:m ≤ maxLen:=hb.le
 simp only [maxLen] at hbe
 refine zG (F0:=[(0,pt g 0),(1,nI e)]) func88 rfl rfl rfl (.c (.c .n)) (zAl hg) ?_
 refine go 1 [] [4,0,1] .n ?_
 intro a w hs;refine zB (v:=nI R.e) hs (.c rfl .n) call90 (zGP g _ _ bs R _ (hs.rd0 hb) (hs.mem.del .z) (by omega)) rfl ?_
 refine goL 1 [] [6,0,1] .n ?_
 refine ifG rfl (fun c_1=>?_) (fun c_1=>?_)
 ·
  refine go 5 [0] [] (.c .z .n) ⟨rfl,?_⟩
  intro a w hs;exact zIP hs rfl ⟨rfl,by unfold zBh;first | rw [if_pos (by omega)] | rw [if_neg (by omega)]⟩
 refine go 0 [] [] .n ?_
 intro a w hs;exact zIP hs rfl ⟨rfl,by unfold zBh;first | rw [if_pos (by omega)] | rw [if_neg (by omega)]⟩
end Go.Proofs.YtemnjodhidlfpaaGreat
/- Walks of reader: New, the document's, the example: what each function does, over the program of this seat. Printed by a program of this session. -/
namespace Go.Proofs.YtemnjodhidlfpaaGreat
open Tryz
open Go Go.Sx Go.RowKit
set_option linter.unusedVariables false
set_option linter.unusedSimpArgs false
set_option maxRecDepth 4000
set_option maxHeartbeats 1000000

theorem zZP (v:Value) (m:Nat) (bs:List zQ) (w0:World) (hb:Rd w0 [] v 1 m (zC bs)):Calls Tryz.prog 41 #[v] w0 (Ret w0 [] fun u N=>∃ g,u = pt g 0 ∧ N = [blk g [v,nI ((⟨0,0⟩ : Rs).p),nI ((⟨0,0⟩ : Rs).e)] 165]):=by
 have hbl:bs.length = m:=by have:=hb.len;simpa [zC] using this
 have hbe:m ≤ maxLen:=hb.le
 simp only [maxLen] at hbe
 refine zG (F0:=[(0,v)]) func41 rfl rfl rfl (.c .n) (Mem.nil _) ?_
 refine go 2 [] [3] .n ?_
 intro a w hs;refine zHJ (it:=Tryz.t165) (zs:=[.slice none 0 0,zI 0,zI 0]) (places:=[(0,1),(1,1),(2,1)]) hs (.c rfl .n) underlying165 rfl rfl rfl rfl (.c rfl (hs.rd0 hb).isSl.lcells (.z (.c .n)) .n) rfl ?_
 refine goL 2 [0] [2] .n (fun g1=>?_)
 intro a w hs;exact fin hs rfl rfl ⟨_,rfl,rfl⟩
end Go.Proofs.YtemnjodhidlfpaaGreat
