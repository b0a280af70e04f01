/- Steps of maps of entities by their Ids. -/
import Derived.Test.YtbioemaipghagaaGreatQSxMap
import Derived.Test.YtbioemaipghagaaGreatQSxDel
set_option linter.unusedVariables false
set_option linter.unusedSimpArgs false
namespace Go.Sx
open Go.RowKit
variable {P : Program} {ops : Array Oper} {Q : Exit → Act → World → Prop} {rest : List Oper} {n : Nat} {F : List (Nat × Value)} {w0 : World} {S : List Nat} {M : List HA} {a : Act} {w : World}
variable {d : Nat} {ty : TypeId} {pos : String} {af : Array Edge}
abbrev entAg (r : EntR) : Value := .agg #[.int .i64 r.id, .int .i64 r.p0, .int .i64 r.p1, .int .i64 r.p2, .int .i64 r.v0, .int .i64 r.v1, .int .i64 r.v2, .int .u16 ((r.a.toNat : Nat) : Int), .int .u8 ((r.g.toNat : Nat) : Int)]
def unEnt : Int × Value → EntR
  | (_, .agg c) => match c.toList with
    | [.int _ a, .int _ b, .int _ c, .int _ d, .int _ e, .int _ f, .int _ g, .int _ h, .int _ i] => ⟨a, b, c, d, e, f, g, BitVec.ofInt 16 h, BitVec.ofInt 8 i⟩
    | _ => entZ
  | _ => entZ
theorem unEnt_eq (e : EntR) : unEnt (e.id, .agg (entV e).toArray) = e := by
  cases e
  simp [unEnt, entV]
theorem un_ekv (l : List EntR) : (ekv l).map unEnt = l := by
  unfold ekv
  rw [List.map_map]
  exact (List.map_congr_left (fun x _ => unEnt_eq x)).trans (List.map_id _)
theorem ekv_perm {l l' : List EntR} (h : (ekv l).Perm (ekv l')) : l.Perm l' := by
  have := h.map unEnt
  rwa [un_ekv, un_ekv] at this
theorem st_mkE {t : TypeId} (hs : St n F w0 S M a w) (hd : Nat.blt d n = true)
    (k : ∀ g a w, St n ((d, .map (some g)) :: F) w0 S (mpr g (ekv []) :: M) a w → wpList P ops Q rest a w) : wpList P ops Q (⟨some d, .makeMap t none, ty, pos, af, none⟩ :: rest) a w := st_mkmap hs hd k
theorem st_lookE {t kt e : TypeId} {m x : Operand} {g : Nat} {k : Int} {l : List EntR} {M' : List HA} (hs : St n F w0 S M a w) (hm : evo F m = some (.map (some g))) (hx : evo F x = some (.int .i64 k)) (hb : Del M (mpr g (ekv l)) M')
    (ht : P.underlying t = some (.map kt e)) (hkt : P.underlying kt = some (.int .i64)) (hz : ∀ w, (zeroValue e).run P w = .ok (entAg entZ) w) (hd : Nat.blt d n = true)
    (c : ∀ a w, St n ((d, .tuple #[entAg ((eget k l).getD entZ), .bool (eget k l).isSome]) :: F) w0 S M a w → wpList P ops Q rest a w) : wpList P ops Q (⟨some d, .lookup t m x true, ty, pos, af, none⟩ :: rest) a w := by
  refine st_look hs hm hx hb ht hkt hz hd ?_
  rw [mget_ekv]
  cases h : eget k l with
  | none => rw [h] at c; exact c
  | some e => rw [h] at c; exact c
theorem st_updE {t kt e : TypeId} {m x y : Operand} {g : Nat} {k : Int} {u : EntR} {l : List EntR} {M' : List HA} (hs : St n F w0 S M a w) (hm : evo F m = some (.map (some g))) (hx : evo F x = some (.int .i64 k)) (hy : evo F y = some (entAg u)) (hb : Del M (mpr g (ekv l)) M') (hk : u.id = k)
    (ht : P.underlying t = some (.map kt e)) (hkt : P.underlying kt = some (.int .i64))
    (c : ∀ a w, St n F w0 S (mpr g (ekv (eput u l)) :: M') a w → wpList P ops Q rest a w) : wpList P ops Q (⟨none, .mapUpdate t m x y, ty, pos, af, none⟩ :: rest) a w := by
  refine st_upd hs hm hx (u := .agg (entV u).toArray) hy hb ht hkt ?_
  rw [mset_ekv hk]
  exact c
theorem st_delE {t kt e : TypeId} {m x : Operand} {g : Nat} {k : Int} {l : List EntR} {M' : List HA} {tt : Array TypeId} (hs : St n F w0 S M a w) (hm : evo F m = some (.map (some g))) (hx : evo F x = some (.int .i64 k)) (hb : Del M (mpr g (ekv l)) M')
    (ht : P.underlying t = some (.map kt e)) (hkt : P.underlying kt = some (.int .i64)) (htt : tt[0]? = some t)
    (c : ∀ a w, St n F w0 S (mpr g (ekv (edel k l)) :: M') a w → wpList P ops Q rest a w) : wpList P ops Q (⟨none, .call { callee := .builtin .delete, args := #[m, x], argTypes := tt }, ty, pos, af, none⟩ :: rest) a w := by
  refine st_mdel hs hm hx hb ht hkt htt ?_
  rw [mdel_ekv]
  exact c
theorem st_lenE {t kt e : TypeId} {m : Operand} {g : Nat} {l : List EntR} {M' : List HA} (hs : St n F w0 S M a w) (hm : evo F m = some (.map (some g))) (hb : Del M (mpr g (ekv l)) M') (ht : P.underlying t = some (.map kt e)) (hd : Nat.blt d n = true)
    (c : ∀ a w, St n ((d, .int .i64 ((l.length : Nat) : Int)) :: F) w0 S M a w → wpList P ops Q rest a w) : wpList P ops Q (⟨some d, .call { callee := .builtin .len, args := #[m], argTypes := #[t] }, ty, pos, af, none⟩ :: rest) a w := by
  refine st_mlen hs hm hb ht hd ?_
  rw [ekv_len]
  exact c
theorem st_rangeE {t kt e : TypeId} {m : Operand} {g : Nat} {l : List EntR} {M' : List HA} (hs : St n F w0 S M a w) (hm : evo F m = some (.map (some g))) (hb : Del M (mpr g (ekv l)) M') (ht : P.underlying t = some (.map kt e)) (hd : Nat.blt d n = true)
    (c : ∀ it a w, St n ((d, .pointer (some ⟨it, 0, none⟩)) :: F) w0 S (mit g it (ekv l) (ekv []) :: M') a w → wpList P ops Q rest a w) : wpList P ops Q (⟨some d, .range t m, ty, pos, af, none⟩ :: rest) a w := st_mrange hs hm hb ht hd c
theorem st_nextE {x : Operand} {g it : Nat} {l done : List EntR} {M' : List HA} (hs : St n F w0 S M a w) (hx : evo F x = some (.pointer (some ⟨it, 0, none⟩))) (hb : Del M (mit g it (ekv l) (ekv done)) M') (hd : Nat.blt d n = true)
    (c0 : done.Perm l → ∀ a w, St n ((d, .tuple #[.bool false]) :: F) w0 S (mit g it (ekv l) (ekv done) :: M') a w → wpList P ops Q rest a w)
    (c1 : ∀ x, x ∈ l → done.length < l.length → ∀ a w, St n ((d, .tuple #[.bool true, .int .i64 x.id, entAg x]) :: F) w0 S (mit g it (ekv l) (ekv (done ++ [x])) :: M') a w → wpList P ops Q rest a w) :
    wpList P ops Q (⟨some d, .next x false, ty, pos, af, none⟩ :: rest) a w := by
  refine st_mnext hs hx hb hd (fun h => c0 (ekv_perm h)) ?_
  intro k v hm hl
  rw [ekv_len, ekv_len] at hl
  obtain ⟨e, he, hq⟩ := List.mem_map.1 hm
  cases hq
  have := c1 e he hl
  rw [show ekv (done ++ [e]) = ekv done ++ [(e.id, .agg (entV e).toArray)] by simp [ekv]] at this
  exact this
theorem st_entryE {x : Operand} {g it : Nat} {l done : List EntR} {e : EntR} {M' : List HA} (hs : St n F w0 S M a w) (hx : evo F x = some (.pointer (some ⟨it, 0, none⟩))) (hb : Del M (mit g it (ekv l) (ekv (done ++ [e]))) M') (hd : Nat.blt d n = true)
    (c : ∀ a w, St n ((d, .tuple #[.int .i64 e.id, entAg e]) :: F) w0 S M a w → wpList P ops Q rest a w) : wpList P ops Q (⟨some d, .entry x, ty, pos, af, none⟩ :: rest) a w := by
  rw [show ekv (done ++ [e]) = ekv done ++ [(e.id, .agg (entV e).toArray)] by simp [ekv]] at hb
  exact st_mentry hs hx hb hd c
def mapG : Value → Nat
  | .map (some g) => g
  | _ => 0
def tup0 : Value → Value
  | .tuple vs => match vs.toList with | x :: _ => x | [] => .bool false
  | _ => .bool false
theorem St.remap {g : Nat} {l l' : List EntR} {M' : List HA} (hs : St n F w0 S M a w) (hb : Del M (mpr g (ekv l)) M') (e : l = l') : St n F w0 S (mpr g (ekv l') :: M') a w := by
  subst e
  refine hs.frame (N := [mpr g (ekv l)]) (.c hb .n) ⟨Chg.refl _ _, by intro h hh; simp only [List.mem_singleton] at hh; subst hh; exact hs.mem.del hb, by simp [feet, mpr], fun k hk => .inl hk⟩
theorem Mem.ndX {M' X : List HA} (h : Mem w0 S M w) (dl : Dels M X M') : (feet X).Nodup := (List.nodup_append.1 (dl.perm.nodup_iff.1 h.nd)).1
theorem isSome_f {α : Type} {o : Option α} (h : o.isSome = false) : o = none := by cases o <;> simp_all
theorem isSome_t {α : Type} {o : Option α} (h : o.isSome = true) : ∃ x, o = some x := Option.isSome_iff_exists.1 h
end Go.Sx
