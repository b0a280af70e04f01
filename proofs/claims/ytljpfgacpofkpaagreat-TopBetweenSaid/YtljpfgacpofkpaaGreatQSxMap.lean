import Derived.Test.YtljpfgacpofkpaaGreatQSxBasB
import Derived.Carry
import Derived.MapKept
import Derived.Maps.RangeRun
set_option linter.unusedVariables false
set_option linter.unusedSimpArgs false
namespace Go.Sx
def kvV (kv:List (Int×Value)):List (Value×Value):=kv.map λx=>(.int .i64 x.1,x.2)
structure zD3 (es:Array MapEntry) (clock:Nat) (kv:List (Int×Value)):Prop where
 kvs:es.toList.map (λe=>(e.key,e.val))=kvV kv
 born:∀ e∈es.toList,e.born<clock
 nd:(es.toList.map (·.born)).Nodup
def mpr (g:Nat) (kv:List (Int×Value)):HA where
 foot:=[g]
 p w:=∃ es clock,w.heap[g]? = some (.map es clock)∧zD3 es clock kv
 loc w w' h hp:=by rw [h g (by simp)];exact hp
 lt w h k hk:=by
  have:k=g:=by simpa using hk
  subst this
  obtain ⟨es,clock,hb,_⟩:=h
  exact (Array.getElem?_eq_some_iff.1 hb).1
def zHf (k:Int):List (Int×Value)→Option Value
 | []=>none
 | x::kv=>if x.1=k then some x.2 else zHf k kv
def zNr (k:Int) (v:Value):List (Int×Value)→List (Int×Value)
 | []=>[(k,v)]
 | x::kv=>if x.1=k then (k,v)::kv else x::zNr k v kv
def zTW (k:Int):List (Int×Value)→List (Int×Value)
 | []=>[]
 | x::kv=>if x.1=k then kv else x::zTW k kv
theorem zE9 (k : Int) : ∀ (es : List MapEntry) (kv : List (Int × Value)) (i : Nat), es.map (fun e => (e.key, e.val)) = kvV kv →
   (zHf k kv=none→Instr.findNow (.int .i64) (.int .i64 k) es i=some none) ∧
   (∀ v,zHf k kv=some v→∃ j,Instr.findNow (.int .i64) (.int .i64 k) es i=some (some (i+j,v))∧j<es.length∧zNr k v kv=kv∧(∀ u,zNr k u kv=kv.set j (k,u))∧zTW k kv=kv.eraseIdx j∧(kv[j]?).map (·.1)=some k)
 | [],[],i,_=>⟨λ_=>rfl,λv h=>by cases h⟩
 | [],x::kv,i,h=>by cases h
 | e::es,[],i,h=>by cases h
 | e::es,x::kv,i,h=>by
   obtain ⟨h1,h2⟩:=List.cons.inj h
   have hk:e.key = .int .i64 x.1:=congrArg Prod.fst h1
   have hv:e.val=x.2:=congrArg Prod.snd h1
   obtain ⟨ih1,ih2⟩:=zE9 k es kv (i+1) h2
   by_cases hx:x.1=k
   · refine ⟨λhn=>?_,λv hs=>?_⟩
     · unfold zHf at hn;rw [if_pos hx] at hn;cases hn
     · unfold zHf at hs
       rw [if_pos hx] at hs
       obtain rfl:=Option.some.inj hs
       refine ⟨0,?_,by simp,?_,λu=>?_,?_,?_⟩
       · simp [Instr.findNow,Instr.sameNow,hk,hv,hx]
       · unfold zNr;rw [if_pos hx];rw [← hx]
       · unfold zNr;rw [if_pos hx];rfl
       · unfold zTW;rw [if_pos hx];rfl
       · simp [hx]
   · have hne:(k==x.1)=false:=beq_eq_false_iff_ne.2 λe=>hx e.symm
     refine ⟨λhn=>?_,λv hs=>?_⟩
     · unfold zHf at hn;rw [if_neg hx] at hn
       simp [Instr.findNow,Instr.sameNow,hk,hne,ih1 hn]
     · unfold zHf at hs;rw [if_neg hx] at hs
       obtain ⟨j,q1,q2,q3,q4,q5,q6⟩:=ih2 v hs
       refine ⟨j+1,?_,by simp;omega,?_,λu=>?_,?_,?_⟩
       · simp [Instr.findNow,Instr.sameNow,hk,hne,q1];omega
       · unfold zNr;rw [if_neg hx,q3]
       · unfold zNr;rw [if_neg hx,q4];rfl
       · unfold zTW;rw [if_neg hx,q5];rfl
       · simpa using q6
open Go.RowKit
variable {P : Program} {ops : Array Oper} {Q : Exit → Act → World → Prop} {rest : List Oper} {n : Nat} {F : List (Nat × Value)} {w0 : World} {S : List Nat} {M : List HA} {a : Act} {w : World}
variable {d : Nat} {ty : TypeId} {pos : String} {af : Array Edge}
theorem zO5 (w:World):Mem w (zN []) [mpr w.heap.size []] (w.alloc (.map #[] 0)):=by
 refine ⟨⟨rfl,rfl,rfl,by simp,λk hk _=>heap_alloc_old w _ hk⟩,?_,by simp [zN,mpr],λk hk=>.inr (by simp [zN,mpr] at hk;omega)⟩
 intro h hh
 simp only [List.mem_singleton] at hh
 subst hh
 exact ⟨#[],0,by simpa using heap_alloc_new w (.map #[] 0),rfl,by simp,by simp⟩
theorem zHb {t : TypeId} (hs : St n F w0 S M a w) (hd : Nat.blt d n = true)
   (k:∀ g a w,St n ((d,.map (some g))::F) w0 S (mpr g []::M) a w→wpList P ops Q rest a w):wpList P ops Q (⟨some d,.makeMap t none,ty,pos,af,none⟩::rest) a w:=by
 have h:=hs.frame (zC5.n (M:=M)) (zO5 w)
 refine zDn rfl rfl (v:=.map (some w.heap.size)) (w':=w.alloc (.map #[] 0)) ?_ (k _ _ _ ((by simpa using h:St n F w0 S (mpr w.heap.size []::M) a _).put hd _))
 simp [execOp,run_makeMap]
theorem zTr {t kt e : TypeId} {g : Nat} {k : Int} {kv : List (Int × Value)} {z : Value} (hb : (mpr g kv).p w) (ht : P.underlying t = some (.map kt e)) (hkt : P.underlying kt = some (.int .i64)) (hz : ∀ w, (zeroValue e).run P w = .ok z w) :
   (Instr.lookup t (.map (some g)) (.int .i64 k) true).run P w = .ok (.tuple #[(zHf k kv).getD z,.bool (zHf k kv).isSome]) w:=by
 obtain ⟨es,clock,he,hm⟩:=hb
 obtain ⟨f1,f2⟩:=zE9 k es.toList kv 0 hm.kvs
 have hck:=@MapKept.run_checkKey P w kt (.int .i64) (.int .i64 k) hkt rfl es.isEmpty 9999
 cases hg:zHf k kv with
 | none =>
   have hf:=MapKept.run_findKey (w:=w) hkt (f1 hg)
   simp [Instr.lookup,run_underlying ht,MapKept.run_getObj_map he,hck,hf,hz,Result.andThen]
 | some v =>
   obtain ⟨j,q1,_⟩:=f2 v hg
   have hf:=MapKept.run_findKey (w:=w) hkt q1
   simp [Instr.lookup,run_underlying ht,MapKept.run_getObj_map he,hck,hf,Result.andThen]
theorem zL7 {k:Int} {u:Value}:∀ {kv:List (Int×Value)},zHf k kv=none→zNr k u kv=kv++[(k,u)]
 | [],_=>rfl
 | x::kv,h=>by
  unfold zHf at h
  split at h
  ·cases h
  ·rename_i hx
   unfold zNr
   rw [if_neg hx,zL7 h]
   rfl
theorem zK8 {k:Int}:∀ {kv:List (Int×Value)},zHf k kv=none→zTW k kv=kv
 | [],_=>rfl
 | x::kv,h=>by
  unfold zHf at h
  split at h
  ·cases h
  ·rename_i hx
   unfold zTW
   rw [if_neg hx,zK8 h]
theorem zFa {α β:Type} (f:α→β) (g:α→α) (b:β) (hg:∀ a,f (g a)=b):∀ (l:List α) (j:Nat),(l.modify j g).map f=(l.map f).set j b
 | [],j=>by simp
 | a::l,0=>by simp [hg]
 | a::l,j+1=>by simp [zFa f g b hg l j]
theorem zDG {α β:Type} (f:α→β) (g:α→α) (hg:∀ a,f (g a)=f a):∀ (l:List α) (j:Nat),(l.modify j g).map f=l.map f
 | [],j=>by simp
 | a::l,0=>by simp [hg]
 | a::l,j+1=>by simp [zDG f g hg l j]
theorem zM9 {es:List MapEntry} {j clock:Nat} {g:MapEntry→MapEntry} (hg:∀ e,(g e).born=e.born) (h:∀ e∈es,e.born<clock):∀ e∈es.modify j g,e.born<clock:=by
 intro e he
 have h1:e.born∈(es.modify j g).map (·.born):=List.mem_map_of_mem he
 rw [zDG (·.born) g hg] at h1
 obtain ⟨e',he',hq⟩:=List.mem_map.1 h1
 rw [← hq]
 exact h e' he'
theorem zD3.put {es:Array MapEntry} {clock j:Nat} {kv:List (Int×Value)} {k:Int} {u:Value} (h:zD3 es clock kv):zD3 (es.modify j λe=>{ e with key:=.int .i64 k,val:=u }) clock (kv.set j (k,u)):=by
 refine ⟨?_,?_,?_⟩
 ·rw [Array.toList_modify,zFa (λe:MapEntry=>(e.key,e.val)) (λe:MapEntry=>{ e with key:=Value.int .i64 k,val:=u }) (Value.int .i64 k,u) (λ_=>rfl),h.kvs,kvV,kvV,List.map_set]
 ·rw [Array.toList_modify]
  exact zM9 (λ_=>rfl) h.born
 ·rw [Array.toList_modify,zDG (λe:MapEntry=>e.born) (λe:MapEntry=>{ e with key:=Value.int .i64 k,val:=u }) (λ_=>rfl)]
  exact h.nd
theorem zD3.push {es:Array MapEntry} {clock:Nat} {kv:List (Int×Value)} {k:Int} {u:Value} (h:zD3 es clock kv):zD3 (es.push { key:=.int .i64 k,val:=u,born:=clock }) (clock+1) (kv++[(k,u)]):=by
 refine ⟨?_,?_,?_⟩
 ·rw [Array.toList_push,List.map_append,h.kvs,kvV,kvV,List.map_append];rfl
 ·intro e he
  rw [Array.toList_push] at he
  rcases List.mem_append.1 he with he | he
  ·have:=h.born e he;omega
  ·rw [List.mem_singleton.1 he];exact Nat.lt_succ_self _
 ·rw [Array.toList_push,List.map_append,List.nodup_append]
  refine ⟨h.nd,by simp,?_⟩
  intro a ha b hb
  obtain ⟨e,he,rfl⟩:=List.mem_map.1 ha
  have:=h.born e he
  simp at hb
  omega
theorem zD3.del {es:Array MapEntry} {clock j:Nat} {kv:List (Int×Value)} (h:zD3 es clock kv):zD3 (es.eraseIdxIfInBounds j) clock (kv.eraseIdx j):=by
 have e:(es.eraseIdxIfInBounds j).toList=es.toList.eraseIdx j:=by simp
 refine ⟨?_,?_,?_⟩
 ·rw [e,kvV,ChangeMaps.map_eraseIdx,ChangeMaps.map_eraseIdx,h.kvs,kvV]
 ·intro x hx
  rw [e] at hx
  exact h.born x (List.mem_of_mem_eraseIdx hx)
 ·rw [e,ChangeMaps.map_eraseIdx]
  exact h.nd.sublist (List.eraseIdx_sublist _ _)
theorem zFS {g clock clock':Nat} {es es':Array MapEntry} {kv kv':List (Int×Value)} (he:w.heap[g]? = some (.map es clock)) (hm:zD3 es' clock' kv'):Mem w (zN [mpr g kv]) [mpr g kv'] { w with heap:=w.heap.setIfInBounds g (.map es' clock') }:=by
 have hh:=MapKept.heap_set (o':=.map es' clock') he
 refine ⟨⟨rfl,rfl,rfl,by simp,λk hk hS=>hh.2 k (by simpa [zN,mpr] using hS)⟩,?_,by simp [zN,mpr],λk hk=>.inl (by simpa [zN,mpr] using hk)⟩
 intro h hm'
 simp only [List.mem_singleton] at hm'
 subst hm'
 exact ⟨es',clock',hh.1,hm⟩
theorem zQ7 {t kt e : TypeId} {g : Nat} {k : Int} {u : Value} {kv : List (Int × Value)} (hb : (mpr g kv).p w) (ht : P.underlying t = some (.map kt e)) (hkt : P.underlying kt = some (.int .i64)) :
   ∃ w',(Instr.mapUpdate t (.map (some g)) (.int .i64 k) u).run P w = .ok () w'∧Mem w (zN [mpr g kv]) [mpr g (zNr k u kv)] w':=by
 obtain ⟨es,clock,he,hm⟩:=hb
 obtain ⟨f1,f2⟩:=zE9 k es.toList kv 0 hm.kvs
 have hck:=@MapKept.run_checkKey P w kt (.int .i64) (.int .i64 k) hkt rfl false 9999
 cases hg:zHf k kv with
 | none =>
   have hf:=MapKept.run_findKey (w:=w) hkt (f1 hg)
   rw [zL7 hg]
   exact ⟨_,by simp [Instr.mapUpdate,run_underlying ht,MapKept.run_getObj_map he,hck,hf,MapKept.run_setObj_map _ he,Result.andThen],zFS he hm.push⟩
 | some v =>
   obtain ⟨j,q1,q2,q3,q4,q5,q6⟩:=f2 v hg
   have hf:=MapKept.run_findKey (w:=w) hkt q1
   rw [q4]
   have hj:es[j]? = some es.toList[j]:=by rw [← Array.getElem?_toList,List.getElem?_eq_getElem q2]
   have hkey:es.toList[j].key = .int .i64 k:=by
     have h1:=congrArg (λl=>(l[j]?).map Prod.fst) hm.kvs
     simp only [kvV,List.getElem?_map,List.getElem?_eq_getElem q2,Option.map_some,Option.map_map] at h1
     cases hq:kv[j]? with
     | none=>rw [hq] at q6;cases q6
     | some y =>
       rw [hq] at q6 h1
       simp only [Option.map_some,Option.some.injEq,Function.comp] at q6 h1
       rw [h1,q6]
   have hj2:j<es.size:=by simpa using q2
   have hkey2:es[j].key = .int .i64 k:=by simpa using hkey
   have hsb:Instr.sameBits 10000 (.int .i64 k) (.int .i64 k)=true:=by simp [Instr.sameBits]
   refine ⟨_,?_,zFS he (hm.put (j:=j) (k:=k) (u:=u))⟩
   simp [hkey2,hsb,Instr.mapUpdate,run_underlying ht,MapKept.run_getObj_map he,hck,hf,MapKept.run_setObj_map _ he,Result.andThen,Instr.keyThatStays,hj]
theorem zXU {t kt e : TypeId} {g : Nat} {k : Int} {kv : List (Int × Value)} (hb : (mpr g kv).p w) (ht : P.underlying t = some (.map kt e)) (hkt : P.underlying kt = some (.int .i64)) {tt : Array TypeId} (htt : tt[0]? = some t) :
   ∃ w',(Builtin.delete_ tt ty #[.map (some g),.int .i64 k]).run P w = .ok (.tuple #[]) w'∧Mem w (zN [mpr g kv]) [mpr g (zTW k kv)] w':=by
 obtain ⟨es,clock,he,hm⟩:=hb
 obtain ⟨f1,f2⟩:=zE9 k es.toList kv 0 hm.kvs
 have hck:=@MapKept.run_checkKey P w kt (.int .i64) (.int .i64 k) hkt rfl es.isEmpty 9999
 cases hg:zHf k kv with
 | none =>
   have hf:=MapKept.run_findKey (w:=w) hkt (f1 hg)
   rw [zK8 hg]
   exact ⟨_,by simp [Builtin.delete_,htt,run_underlying ht,MapKept.run_getObj_map he,hck,hf,MapKept.run_setObj_map _ he,Result.andThen],zFS he hm⟩
 | some v =>
   obtain ⟨j,q1,q2,q3,q4,q5,q6⟩:=f2 v hg
   have hf:=MapKept.run_findKey (w:=w) hkt q1
   rw [q5]
   exact ⟨_,by simp [Builtin.delete_,htt,run_underlying ht,MapKept.run_getObj_map he,hck,hf,MapKept.run_setObj_map _ he,Result.andThen],zFS he (hm.del (j:=j))⟩
theorem zRV {t kt e : TypeId} {m x : Operand} {g : Nat} {k : Int} {kv : List (Int × Value)} {z : Value} {M' : List HA} (hs : St n F w0 S M a w) (hm : evo F m = some (.map (some g))) (hx : evo F x = some (.int .i64 k)) (hb : Del M (mpr g kv) M')
   (ht:P.underlying t=some (.map kt e)) (hkt:P.underlying kt=some (.int .i64)) (hz:∀ w,(zeroValue e).run P w = .ok z w) (hd:Nat.blt d n=true)
   (c:∀ a w,St n ((d,.tuple #[(zHf k kv).getD z,.bool (zHf k kv).isSome])::F) w0 S M a w→wpList P ops Q rest a w):wpList P ops Q (⟨some d,.lookup t m x true,ty,pos,af,none⟩::rest) a w :=
 zM hs (by simp [execOp,hs.ev hm,hs.ev hx,zTr (hs.mem.del hb) ht hkt hz]) hd c
theorem zbm {t kt e : TypeId} {m x y : Operand} {g : Nat} {k : Int} {u : Value} {kv : List (Int × Value)} {M' : List HA} (hs : St n F w0 S M a w) (hm : evo F m = some (.map (some g))) (hx : evo F x = some (.int .i64 k)) (hy : evo F y = some u) (hb : Del M (mpr g kv) M')
   (ht:P.underlying t=some (.map kt e)) (hkt:P.underlying kt=some (.int .i64))
   (c:∀ a w,St n F w0 S (mpr g (zNr k u kv)::M') a w→wpList P ops Q rest a w):wpList P ops Q (⟨none,.mapUpdate t m x y,ty,pos,af,none⟩::rest) a w:=by
 obtain ⟨w',hr,hw⟩:=zQ7 (hs.mem.del hb) ht hkt (k:=k) (u:=u)
 exact zH2 rfl rfl (by simp [execOp,hs.ev hm,hs.ev hx,hs.ev hy,hr]) (c _ _ (hs.frame (.c hb .n) hw))
theorem zD3.size {es:Array MapEntry} {clock:Nat} {kv:List (Int×Value)} (h:zD3 es clock kv):es.size=kv.length:=by
 have:=congrArg List.length h.kvs
 simpa [kvV] using this
theorem zXl {t kt e : TypeId} {m : Operand} {g : Nat} {kv : List (Int × Value)} {M' : List HA} (hs : St n F w0 S M a w) (hm : evo F m = some (.map (some g))) (hb : Del M (mpr g kv) M') (ht : P.underlying t = some (.map kt e)) (hd : Nat.blt d n = true)
   (c:∀ a w,St n ((d,.int .i64 ((kv.length:Nat):Int))::F) w0 S M a w→wpList P ops Q rest a w):wpList P ops Q (⟨some d,.call { callee:=.builtin .len,args:=#[m],argTypes:=#[t] },ty,pos,af,none⟩::rest) a w:=by
 obtain ⟨es,clock,he,hi⟩:=hs.mem.del hb
 exact zM hs (by simp [execOp,resolve,invoke,builtin,Builtin.len_,hs.ev hm,run_underlying ht,MapKept.run_getObj_map he,hi.size,goInt,Result.andThen]) hd c
theorem zUl {o : Oper} {w' : World} {v : Value} (hg : o.guard = none) (hdst : o.dst = none) (hrun : (execOp a.eval o).run P w = .ok (.value v) w')
   (c:wpList P ops Q rest a w'):wpList P ops Q (o::rest) a w :=
 wpList_plain hg λK hK=>by
   unfold Oper.wp
   rw [hrun,Oper.upon_value,hdst]
   exact hK _ _ c
theorem zXg {t kt e : TypeId} {m x : Operand} {g : Nat} {k : Int} {kv : List (Int × Value)} {M' : List HA} {tt : Array TypeId} (hs : St n F w0 S M a w) (hm : evo F m = some (.map (some g))) (hx : evo F x = some (.int .i64 k)) (hb : Del M (mpr g kv) M')
   (ht:P.underlying t=some (.map kt e)) (hkt:P.underlying kt=some (.int .i64)) (htt:tt[0]? = some t)
   (c:∀ a w,St n F w0 S (mpr g (zTW k kv)::M') a w→wpList P ops Q rest a w):wpList P ops Q (⟨none,.call { callee:=.builtin .delete,args:=#[m,x],argTypes:=tt },ty,pos,af,none⟩::rest) a w:=by
 obtain ⟨w',hr,hw⟩:=zXU (ty:=ty) (hs.mem.del hb) ht hkt (k:=k) htt
 exact zUl (v:=.tuple #[]) rfl rfl (by simp [execOp,resolve,invoke,builtin,hs.ev hm,hs.ev hx,hr,Result.andThen]) (c _ _ (hs.frame (.c hb .n) hw))
variable {P : Program} {ops : Array Oper} {Q : Exit → Act → World → Prop} {rest : List Oper} {n : Nat} {F : List (Nat × Value)} {w0 : World} {S : List Nat} {M : List HA} {a : Act} {w : World}
variable {d : Nat} {ty : TypeId} {pos : String} {af : Array Edge}
def zcs : Value×Value→Int×Value
 | (.int _ k,v)=>(k,v)
 | _=>(0,.bool false)
theorem zOM (l:List (Int×Value)):(kvV l).map zcs=l:=by
 unfold kvV
 rw [List.map_map]
 exact (List.map_congr_left (λx _=>rfl)).trans (List.map_id _)
theorem zUC {l l':List (Int×Value)} (h:(kvV l).Perm (kvV l')):l.Perm l':=by
 have:=h.map zcs
 rwa [zOM,zOM] at this
structure zIj (es:Array MapEntry) (seen:Array Nat) (done:List (Int×Value)) (ds:List MapEntry):Prop where
 seen:seen.toList=ds.map (·.born)
 sub:∀ e∈ds,e∈es.toList
 nd:(ds.map (·.born)).Nodup
 kvs:ds.map (λe=>(e.key,e.val))=kvV done
def mit (g it:Nat) (kv done:List (Int×Value)):HA where
 foot:=[g,it]
 p w:=∃ es clock seen ds,w.heap[g]? = some (.map es clock)∧zD3 es clock kv∧w.heap[it]? = some (.mapIter (some g) clock seen clock)∧zIj es seen done ds
 loc w w' h hp:=by rw [h g (by simp),h it (by simp)];exact hp
 lt w h k hk:=by
  obtain ⟨es,clock,seen,ds,h1,_,h2,_⟩:=h
  rcases List.mem_cons.1 hk with e | e
  ·rw [e];exact (Array.getElem?_eq_some_iff.1 h1).1
  ·rw [List.mem_singleton.1 e];exact (Array.getElem?_eq_some_iff.1 h2).1
theorem zTn {es:List MapEntry} (hn:(es.map (·.born)).Nodup) {e e':MapEntry} (he:e∈es) (he':e'∈es) (h:e.born=e'.born):e=e':=by
 induction es with
 | nil=>cases he
 | cons x es ih =>
  rw [List.map_cons,List.nodup_cons] at hn
  rcases List.mem_cons.1 he with q | q<;>rcases List.mem_cons.1 he' with q' | q'
  ·rw [q,q']
  ·exact absurd (List.mem_map.2 ⟨e',q',by rw [← h,q]⟩) hn.1
  ·exact absurd (List.mem_map.2 ⟨e,q,by rw [h,q']⟩) hn.1
  ·exact ih hn.2 q q'
theorem zEg {α β:Type} (f:α→β) {l:List α} (h:(l.map f).Nodup):l.Nodup:=by
 induction l with
 | nil=>exact List.nodup_nil
 | cons x l ih =>
  rw [List.map_cons,List.nodup_cons] at h
  exact List.nodup_cons.2 ⟨λhx=>h.1 (List.mem_map.2 ⟨x,hx,rfl⟩),ih h.2⟩
theorem zIj.all {es:Array MapEntry} {clock:Nat} {seen:Array Nat} {kv done:List (Int×Value)} {ds:List MapEntry} (hm:zD3 es clock kv) (hi:zIj es seen done ds) (h0:(leftOf es seen).size=0):done.Perm kv:=by
 apply zUC
 rw [← hi.kvs,← hm.kvs]
 refine List.Perm.map _ ((List.perm_ext_iff_of_nodup (zEg _ hi.nd) (zEg _ hm.nd)).2 λe=>⟨hi.sub e,λhe=>?_⟩)
 have hl:e ∉ (leftOf es seen).toList:=by
  rw [Array.eq_empty_of_size_eq_zero h0]
  simp
 have hs:e.born∈seen.toList:=by
  unfold leftOf at hl
  simp at hl he
  simpa using hl he
 rw [hi.seen] at hs
 obtain ⟨e',he',hq⟩:=List.mem_map.1 hs
 rw [← zTn hm.nd (hi.sub e' he') he hq]
 exact he'
theorem zPK {g:Nat} {kv:List (Int×Value)} {es:Array MapEntry} {clock:Nat} (he:w.heap[g]? = some (.map es clock)) (hm:zD3 es clock kv):Mem w (zN [mpr g kv]) [mit g w.heap.size kv []] (w.alloc (.mapIter (some g) clock #[] clock)):=by
 have hlt:g<w.heap.size:=(Array.getElem?_eq_some_iff.1 he).1
 refine ⟨⟨rfl,rfl,rfl,by simp,λk hk _=>heap_alloc_old w _ hk⟩,?_,?_,?_⟩
 ·intro h hh
  simp only [List.mem_singleton] at hh
  subst hh
  exact ⟨es,clock,#[],[],(heap_alloc_old w _ hlt).trans he,hm,by simpa using heap_alloc_new w (.mapIter (some g) clock #[] clock),⟨rfl,by simp,by simp,rfl⟩⟩
 ·simp [zN,mit];omega
 ·intro k hk
  simp [zN,mit,mpr] at hk ⊢
  omega
theorem zSW {t kt e : TypeId} {m : Operand} {g : Nat} {kv : List (Int × Value)} {M' : List HA} (hs : St n F w0 S M a w) (hm : evo F m = some (.map (some g))) (hb : Del M (mpr g kv) M') (ht : P.underlying t = some (.map kt e)) (hd : Nat.blt d n = true)
   (c:∀ it a w,St n ((d,.pointer (some ⟨it,0,none⟩))::F) w0 S (mit g it kv []::M') a w→wpList P ops Q rest a w):wpList P ops Q (⟨some d,.range t m,ty,pos,af,none⟩::rest) a w:=by
 obtain ⟨es,clock,he,hi⟩:=hs.mem.del hb
 have h:=hs.frame (.c hb .n) (zPK he hi)
 refine zDn rfl rfl (v:=.pointer (some ⟨w.heap.size,0,none⟩)) (w':=w.alloc (.mapIter (some g) clock #[] clock)) ?_ (c _ _ _ ((by simpa using h:St n F w0 S (mit g w.heap.size kv []::M') a _).put hd _))
 simp [execOp,Instr.range,hs.ev hm,run_underlying ht,MapKept.run_getObj_map he,Result.andThen]
theorem zF8 {α:Type}:∀ {l1 l2:List α},l1.Nodup→(∀ x∈l1,x∈l2)→l1.length≤l2.length
 | [],_,_,_=>Nat.zero_le _
 | x::l1,l2,hn,hs=>by
  rw [List.nodup_cons] at hn
  obtain ⟨a,b,rfl⟩:=List.append_of_mem (hs x (by simp))
  have:=zF8 (l2:=a++b) hn.2 λy hy=>by
   have:=hs y (by simp [hy])
   simp only [List.mem_append,List.mem_cons] at this ⊢
   rcases this with h | h | h
   ·exact .inl h
   ·exact absurd (h ▸ hy) hn.1
   ·exact .inr h
  simp only [List.length_append,List.length_cons] at this ⊢
  omega
theorem zD3.of_mem {es:Array MapEntry} {clock:Nat} {kv:List (Int×Value)} (hm:zD3 es clock kv) {e:MapEntry} (he:e∈es.toList):∃ x∈kv,e.key = .int .i64 x.1∧e.val=x.2:=by
 have h1:(e.key,e.val)∈kvV kv:=by rw [← hm.kvs];exact List.mem_map.2 ⟨e,he,rfl⟩
 obtain ⟨x,hx,hq⟩:=List.mem_map.1 h1
 exact ⟨x,hx,(congrArg Prod.fst hq).symm,(congrArg Prod.snd hq).symm⟩
theorem zMf {g it clock : Nat} {seen seen' : Array Nat} {es : Array MapEntry} {kv done done' : List (Int × Value)} {ds' : List MapEntry} {w1 : World} (h1 : w1 = w ∨ w1 = w.drew) (he : w.heap[g]? = some (.map es clock)) (hm : zD3 es clock kv)
   (hi:w.heap[it]? = some (.mapIter (some g) clock seen clock)) (hI:zIj es seen' done' ds'):Mem w (zN [mit g it kv done]) [mit g it kv done'] (ChangeMaps.setBlock w1 it (.mapIter (some g) clock seen' clock)):=by
 have hne:it≠g:=λe=>by rw [e,he] at hi;cases hi
 have hlt:it<w.heap.size:=(Array.getElem?_eq_some_iff.1 hi).1
 have hh:w1.heap=w.heap∧w1.os=w.os∧w1.tape=w.tape∧w1.output=w.output:=by rcases h1 with rfl | rfl<;>exact ⟨rfl,rfl,rfl,rfl⟩
 refine ⟨⟨hh.2.1,hh.2.2.1,hh.2.2.2,by simp [ChangeMaps.setBlock,hh.1],λk hk hS=>?_⟩,?_,?_,?_⟩
 · simp only [zN,mit,List.flatMap_cons,List.flatMap_nil,List.append_nil,List.mem_cons,List.not_mem_nil,or_false,not_or] at hS
   simp only [ChangeMaps.setBlock,hh.1]
   rw [Array.getElem?_setIfInBounds_ne (Ne.symm hS.2)]
 · intro h hh'
   simp only [List.mem_singleton] at hh'
   subst hh'
   refine ⟨es,clock,seen',ds',?_,hm,?_,hI⟩
   · simp only [ChangeMaps.setBlock,hh.1]
     rw [Array.getElem?_setIfInBounds_ne hne];exact he
   · simp [ChangeMaps.setBlock,hh.1,hlt]
 · simp [zN,mit,Ne.symm hne]
 · intro k hk
   exact .inl (by simpa [zN,mit] using hk)
theorem zIj.len {es:Array MapEntry} {clock:Nat} {seen:Array Nat} {kv done:List (Int×Value)} {ds:List MapEntry} (hm:zD3 es clock kv) (hi:zIj es seen done ds):done.length≤kv.length:=by
 have h1:=zF8 (zEg _ hi.nd) hi.sub
 have h2:=congrArg List.length hi.kvs
 have h3:=congrArg List.length hm.kvs
 simp only [kvV,List.length_map] at h2 h3
 omega
theorem zUF {x : Operand} {g it : Nat} {kv done : List (Int × Value)} {M' : List HA} (hs : St n F w0 S M a w) (hx : evo F x = some (.pointer (some ⟨it, 0, none⟩))) (hb : Del M (mit g it kv done) M') (hd : Nat.blt d n = true)
   (c0:done.Perm kv→∀ a w,St n ((d,.tuple #[.bool false])::F) w0 S (mit g it kv done::M') a w→wpList P ops Q rest a w)
   (c1:∀ k v,(k,v)∈kv→done.length<kv.length→∀ a w,St n ((d,.tuple #[.bool true,.int .i64 k,v])::F) w0 S (mit g it kv (done++[(k,v)])::M') a w→wpList P ops Q rest a w) :
   wpList P ops Q (⟨some d,.next x false,ty,pos,af,none⟩::rest) a w:=by
 obtain ⟨es,clock,seen,ds,he,hm,hi,hI⟩:=hs.mem.del hb
 rcases run_next_at (P:=P) w ty it g clock clock seen es clock hi he hm.born (Nat.le_refl _) with ⟨h0,hr⟩ | ⟨e,hel,w1,hw1,hr⟩
 · have h := hs.frame (N := [mit g it kv done]) (.c hb .n) ⟨Chg.refl _ _, by intro h hh; simp only [List.mem_singleton] at hh; subst hh; exact hs.mem.del hb, by
     have hp:=hb.perm
     have:=(List.nodup_append.1 (hp.nodup_iff.1 hs.mem.nd)).1
     simpa [zN] using this,λk hk=>.inl hk⟩
   exact zDn rfl rfl (v:=.tuple #[.bool false]) (w':=w) (by simp [execOp,hs.ev hx,hr]) (c0 (hI.all hm h0) _ _ (h.put hd _))
 · have hes:e∈es.toList:=by unfold leftOf at hel;simp at hel ⊢;exact hel.1
   have hns:e.born ∉ seen.toList:=by unfold leftOf at hel;simp at hel ⊢;exact hel.2
   obtain ⟨y,hy,hk,hv⟩:=hm.of_mem hes
   have hI':zIj es (seen.push e.born) (done++[y]) (ds++[e]):=by
     refine ⟨by simp [hI.seen],λz hz=>?_,?_,?_⟩
     · rcases List.mem_append.1 hz with h | h
       · exact hI.sub z h
       · rw [List.mem_singleton.1 h];exact hes
     · rw [List.map_append,List.nodup_append]
       refine ⟨hI.nd,by simp,λa ha b hb' e'=>?_⟩
       simp only [List.map_cons,List.map_nil,List.mem_singleton] at hb'
       rw [e',hb',← hI.seen] at ha
       exact hns ha
     · rw [List.map_append,hI.kvs]
       simp [kvV,hk,hv]
   have hlen:=hI'.len hm
   have h:=hs.frame (.c hb .n) (zMf (done:=done) hw1 he hm hi hI')
   refine zDn rfl rfl (v:=.tuple #[.bool true,.int .i64 y.1,y.2]) (w':=ChangeMaps.setBlock w1 it (.mapIter (some g) clock (seen.push e.born) clock)) (by simp [execOp,hs.ev hx,hr,hk,hv]) (c1 y.1 y.2 hy (by simp at hlen;omega) _ _ (h.put hd _))
theorem zP0 {x : Operand} {g it : Nat} {k : Int} {v : Value} {kv done : List (Int × Value)} {M' : List HA} (hs : St n F w0 S M a w) (hx : evo F x = some (.pointer (some ⟨it, 0, none⟩))) (hb : Del M (mit g it kv (done ++ [(k, v)])) M') (hd : Nat.blt d n = true)
   (c:∀ a w,St n ((d,.tuple #[.int .i64 k,v])::F) w0 S M a w→wpList P ops Q rest a w):wpList P ops Q (⟨some d,.entry x,ty,pos,af,none⟩::rest) a w:=by
 obtain ⟨es,clock,seen,ds,he,hm,hi,hI⟩:=hs.mem.del hb
 have hl:ds≠[]:=λe=>by
   have:=hI.kvs
   rw [e] at this
   simp [kvV] at this
 have hds:ds=ds.dropLast++[ds.getLast hl]:=(List.dropLast_concat_getLast hl).symm
 generalize ds.getLast hl=e at hds
 generalize ds.dropLast=ds' at hds
 subst hds
 have hq:=hI.kvs
 rw [List.map_append,kvV,List.map_append] at hq
 have hq2:=(List.append_inj' hq rfl).2
 simp only [List.map_cons,List.map_nil,List.cons.injEq,Prod.mk.injEq,and_true] at hq2
 have hse:seen=(ds'.map (·.born)).toArray.push e.born:=by
   apply Array.toList_inj.1
   rw [hI.seen]
   simp
 rw [hse] at hi
 have hr:=run_entry_at (P:=P) w it g clock _ es clock e hi he (hI.sub e (by simp)) hm.nd
 exact zM hs (by simp [execOp,hs.ev hx,hr,hq2.1,hq2.2]) hd c
theorem St.mback {g it:Nat} {kv done:List (Int×Value)} {M':List HA} (hs:St n F w0 S M a w) (hb:Del M (mit g it kv done) M'):St n F w0 S (mpr g kv::M') a w:=by
 obtain ⟨es,clock,seen,ds,he,hm,hi,hI⟩:=hs.mem.del hb
 exact hs.frame (N:=[mpr g kv]) (.c hb .n) ⟨Chg.refl _ _,by intro h hh;simp only [List.mem_singleton] at hh;subst hh;exact ⟨es,clock,he,hm⟩,by simp [zN,mpr],λk hk=>.inl (by simp [zN,mpr,mit] at hk ⊢;exact .inl hk)⟩
end Go.Sx
