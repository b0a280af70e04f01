/- Walks of StoreAccepts: what each function does, over the program of this seat. Printed by a program of this session. -/
import Derived.Test.YtbacobmcfelmkaaGreatQWstoA
import Derived.Test.YtbacobmcfelmkaaGreatQWstoB
import Derived.Test.YtbacobmcfelmkaaGreatQWstom2
import Derived.Test.YtbacobmcfelmkaaGreatQWdelm
import Derived.Test.YtbacobmcfelmkaaGreatQSxBasB
namespace Go.Proofs.YtbacobmcfelmkaaGreat
open Tryz
open Go Go.Sx Go.RowKit
set_option linter.unusedVariables false
set_option linter.unusedSimpArgs false
set_option maxRecDepth 4000
set_option maxHeartbeats 1000000

theorem zHm (n : Int) (u : Value) (L : List BR) (w0 : World) (hn : R64 n) (hu : Rd w0 [] u 1 L.length (L.map BR.v)) (hLb : ∀ x ∈ L, Rd w0 [] x.v 1 x.bs.length (zF x.bs)) : Calls Tryz.prog 3 #[.int .i64 n, u] w0 (zCn w0 (.bool true)) := by
 have hue := hu.le
 simp only [maxLen] at hue
 have hmr := zEo n
 refine zT (F0 := [(0, zI n), (1, u)]) func3 rfl rfl rfl (.c (.c .n)) (Mem.nil _) ?_
 refine go 2 [] [22, 0, 1] .n ?_
 intro a w hs; refine zH (v := nI (zAu n)) hs (.c rfl .n) call5 (zKI n _ (by omega)) rfl ?_
 intro a w hs; refine zO hs (.c rfl .n) call4 .n (zSp (zAu n) _ (zEo n)) rfl ?_; clear hs w a; rintro _ _ a w ⟨g1, X2, rfl, rfl, hX3⟩ hs
 revert a w hs
 refine goL 5 [] [6, 5, 0, 1] .n ?_
 intro a w hs; refine zH (v := .bool (true)) hs .n call6 (zIx _) rfl ?_
 refine goL 11 [] [38, 37, 6, 5, 0, 1] .n ?_
 intro a w hs; refine zC hs rfl rfl rfl ?_
 refine zO hs (.c rfl .n) call7 .n (zNk _ L _ (hs.rd0 hu) (fun x hx => hs.rd0 (hLb x hx))) rfl ?_; clear hs w a; rintro _ _ a w ⟨b4, rfl, hg5, rfl⟩ hs
 revert a w hs
 refine goL 1 [] [40, 6, 5, 0, 1] .n ?_
 refine ifG rfl (fun c_6 => ?_) (fun c_6 => ?_)
 ·
  refine go 0 [] [6, 5] .n ?_
  intro a w hs; refine zH (v := .bool (true)) hs .n call6 (zIx _) rfl ?_
  refine goL 9 [] [4] .n ?_
  refine cl (·.drop (.c .z .n)) ?_
  intro a w hs; exact fin hs rfl rfl ⟨rfl, rfl⟩
 have hL60 := hg5 (by assumption)
 refine go 1 [] [50, 5, 1] .n ?_
 intro a w hs; refine zH (v := nI (zAu n)) hs (.c rfl .n) call5 (zKI n _ (by omega)) rfl ?_
 intro a w hs; refine zO hs (.c rfl .n) call8 .n (zUL ((zAu n : Nat) : Int) _) rfl ?_; clear hs w a; rintro _ _ a w ⟨g7, rfl, rfl⟩ hs
 revert a w hs
 refine goL 2 [] [53, 7, 5] .n ?_
 intro a w hs; refine zAG hs rfl (hs.rd0 hu).isSl underlying22 rfl ?_
 refine goL 1 [] [55, 54, 53, 7, 5] .n ?_
 refine cl (·.addRowR 3) ?_
 refine cl (·.addRws 72) ?_
 refine cl (·.rerowR (.s .z) (m' := ([] : List RI).length) (xs' := ([] : List RI).flatMap snV) rfl rfl) ?_
 refine cl (·.reblk (.s (.s .z)) (cs' := [.slice none 0 0, nI (zAu n), zI (dfl zCZ.floor zCZ.gone), nI (zCZ.n 0), nI (zCZ.n 1), nI (zCZ.n 2), nI (zCZ.n 3), nI (zCZ.n 4), nI (zCZ.n 5), nI (zCZ.n 6), nI (zCZ.n 7), nI (zCZ.n 8), nI (zCZ.n 9), nI (zCZ.n 10), nI (zCZ.n 11), nI (zCZ.n 12), nI (zCZ.n 13), nI (zCZ.n 14), nI (zCZ.n 15), nI (zCZ.n 16), nI (zCZ.n 17)]) rfl) ?_
 refine cl (·.reorder (.c (.s (.s (.s .z))) (.c .z (.c .z (.c .z .n))))) ?_
 intro a w hs; refine zCA (fun mm_ a w => ∃ j : Nat, ∃ X : HA, ∃ σ : Stt, ∃ q : Value, ∃ l : List RI, mm_ = L.length - j ∧ St 175 [(5, pt g1 0), (7, pt g7 0), (53, u), (54, nI L.length), (55, nI j)] w0 [] [X, blk g7 [q, nI (zAu n), zI (dfl σ.floor σ.gone), nI (σ.n 0), nI (σ.n 1), nI (σ.n 2), nI (σ.n 3), nI (σ.n 4), nI (σ.n 5), nI (σ.n 6), nI (σ.n 7), nI (σ.n 8), nI (σ.n 9), nI (σ.n 10), nI (σ.n 11), nI (σ.n 12), nI (σ.n 13), nI (σ.n 14), nI (σ.n 15), nI (σ.n 16), nI (σ.n 17)] 41, zC8 q 3 l.length (l.flatMap snV), rws 72 l] a w ∧ j ≤ L.length ∧ Sto g1 (zAu n) σ X ∧ (∀ i, σ.n i ≤ j) ∧ σ.l = sns l ∧ Oks σ.l (zAu n)) ⟨0, X2, zCZ, .slice none 0 0, [], rfl, hs.sub (.c rfl (.c rfl (.c rfl (.c rfl (.c rfl .n))))), by omega, hX3, (fun _ => Nat.le_refl 0), rfl, (zRY (zEo n))⟩ ?_
 clear hs w a; rintro mm_ a w ⟨j, X, σ, q, l, rfl, hs, hI1_0, hI1_1, hI1_2, hI1_3, hI1_4⟩
 revert a w hs
 refine go 1 [] [56, 5, 7, 53, 54, 55] .n ?_
 refine ifG rfl (fun c_8 => ?_) (fun c_8 => ?_)
 ·
  refine go 0 [] [5, 7, 53, 54, 55] .n ?_
  intro a w hs; refine zA9 (j := j) hs rfl rfl (hs.rd0 hu) rfl (by omega) underlying22 sizeOf32 rfl ?_
  intro a w hs; refine zA7 (u := (L.getD j default).v) hs rfl (hs.rd0 hu) (zOe (by omega)) isAgg32 rfl ?_
  refine goL 3 [] [61, 60, 9, 5, 7, 53, 54, 55] .n ?_
  intro a w hs; refine zO hs (.c rfl (.c rfl .n)) call9 (.c .z .n) (zEv hI1_1 (fun i => Nat.le_trans (hI1_2 i) (by omega)) _ (hs.mem.del .z) (hs.mem.rd1 (hLb (L.getD j default) (zT8 (by omega))) (.c .z .n))) rfl ?_; clear hs w a; rintro _ _ a w ⟨rfl, X9, rfl, hX10⟩ hs
  revert a w hs
  refine goL 7 [] [67, 66, 11, 10, 5, 7, 53, 54, 55] .n ?_
  intro a w hs; refine zO hs (.c rfl (.c rfl .n)) call10 (.c (.s .z) (.c (.s .z) (.c (.s .z) .n))) (zNR ⟨hI1_3, hI1_3 ▸ hI1_4, (fun i => Nat.le_trans (hI1_2 i) (by omega))⟩ hs.mem (.c (.s .z) (.c (.s .z) (.c (.s .z) .n))) (hs.mem.rd1 (hLb (L.getD j default) (zT8 (by omega))) (.c (.s .z) (.c (.s .z) (.c (.s .z) .n))))) rfl ?_; clear hs w a; rintro _ _ a w ⟨rfl, u11, l12, hl13, rfl⟩ hs
  have he17 := zLp (l := σ.l) (most := (zAu n)) (fl := σ.floor) (gone := σ.gone) (bs := (L.getD j default).bs)
  revert a w hs
  refine goL 5 [] [13, 12, 11, 10, 5, 7, 53, 54, 55] .n ?_
  by_cases ce : (zAT σ.l (zAu n) σ.floor σ.gone (zA (L.getD j default).bs)) = 0
  ·
   intro a w hs
   refine zS (dcs [.p [] [], .p [] [], .v [1, 0] (.bool (false)), .p [2] [], .p [3] [], .p [3] [], .v [5, 4, 3] (.bool (false)), .p [6, 3] [], .p [7] [], .p [8] [], .v [9, 8] (nI ((zAX (zAu n) σ (zA ((L.getD j default).bs))).l.length)), .p [8] [], .p [11, 8] [], .p [12, 8] [], .p [13, 8] [0], .v [14, 8] (nI l12.length), .v [15, 10, 8] (.bool (false)), .p [16, 8] [], .p [17] [], .p [18] [], .v [19, 18] (nI ((zAX (zAu n) σ (zA ((L.getD j default).bs))).n 0)), .p [18] [], .p [21, 18] [], .p [22, 18] [], .p [23, 18] [], .p [24, 18] [0], .v [25, 20, 18] (.bool (false)), .p [26, 18] []] [.p [27] [], .p [28] [], .p [28] [], .v [30, 29, 28] (nI (zDv (zAX (zAu n) σ (zA ((L.getD j default).bs))).n ((zAT σ.l (zAu n) σ.floor σ.gone (zA ((L.getD j default).bs)) : Nat) : Int))), .p [28] [], .p [28] [], .p [32, 28] [], .p [34, 28] [], .v [35, 33, 28] (pt g7 (3 + (zAT σ.l (zAu n) σ.floor σ.gone (zA ((L.getD j default).bs))))), .v [36, 28] (nI (((zAX (zAu n) σ (zA ((L.getD j default).bs))).n) (zAT σ.l (zAu n) σ.floor σ.gone (zA ((L.getD j default).bs))))), .v [37, 31, 28] (.bool (true)), .p [38, 28] [], .p [39] [], .v [40, 39] (.bool (false)), .p [41, 39, 28] [], .p [42, 28] []]) [43] hs .n (.c .z .n) (by kernel_rfl) ⟨fun _ _ _ _ hm hs K => zDx hs rfl rfl rfl (fun a w hs => wpList_nil (K _ _ (by rw [show (!((zGW σ.l (zAu n) σ.floor σ.gone (zA ((L.getD j default).bs)) : Int) == (zGW σ.l (zAu n) σ.floor σ.gone (zA ((L.getD j default).bs))))) = false from congrArg (!·) (beq_self_eq_true _)] at hs; exact hs))), fun _ _ _ _ hm hs K => zC hs rfl rfl rfl (zDx hs rfl rfl rfl (fun a w hs => wpList_nil (K _ _ (by rw [show (!((((zAT σ.l (zAu n) σ.floor σ.gone (zA ((L.getD j default).bs)) : Nat) : Int) : Int) == ((zAT σ.l (zAu n) σ.floor σ.gone (zA ((L.getD j default).bs)) : Nat) : Int))) = false from congrArg (!·) (beq_self_eq_true _)] at hs; exact hs)))), fun _ _ _ _ hm hs K => zC hs rfl rfl rfl (zH (v := nI ((zAX (zAu n) σ (zA ((L.getD j default).bs))).l.length)) hs (.c rfl .n) call11 (zPU hX10 _ (hm.del (.s (.s (.s .z))))) rfl (vk K)), rfl, fun _ _ _ _ hm hs K => zC hs rfl rfl rfl (zAG hs rfl (zAC (hm.del (.s .z))).isSl underlying38 rfl (vk K)), fun _ _ _ _ hm hs K => zC hs rfl rfl rfl (zDx hs rfl rfl rfl (fun a w hs => wpList_nil (K _ _ (by rw [show (!(((((zAX (zAu n) σ (zA ((L.getD j default).bs))).l.length : Nat) : Int) : Int) == ((l12.length : Nat) : Int))) = false from by rw [hl13, zAJ]; exact congrArg (!·) (beq_self_eq_true _)] at hs; exact hs)))), fun _ _ _ _ hm hs K => zC hs rfl rfl rfl (zH (v := nI ((zAX (zAu n) σ (zA ((L.getD j default).bs))).n 0)) hs (.c rfl .n) call12 (zJv hX10 _ (hm.del (.s (.s (.s .z))))) rfl (vk K)), rfl, fun _ _ _ _ hm hs K => zC hs rfl rfl rfl (zDx hs rfl rfl rfl (fun a w hs => wpList_nil (K _ _ (by rw [show (!(((((zAX (zAu n) σ (zA ((L.getD j default).bs))).n 0 : Nat) : Int) : Int) == ((((zAX (zAu n) σ (zA ((L.getD j default).bs))).n) 0 : Nat) : Int))) = false from congrArg (!·) (beq_self_eq_true _)] at hs; exact hs)))), fun _ _ _ _ hm hs K => zC hs rfl rfl rfl (zH (v := nI (zDv (zAX (zAu n) σ (zA ((L.getD j default).bs))).n ((zAT σ.l (zAu n) σ.floor σ.gone (zA ((L.getD j default).bs)) : Nat) : Int))) hs (.c rfl (.c rfl .n)) call13 (zD6 hX10 ((zAT σ.l (zAu n) σ.floor σ.gone (zA ((L.getD j default).bs)) : Nat) : Int) _ (hm.del (.s (.s (.s .z)))) (by omega)) rfl (vk K)), fun _ _ _ _ hm hs K => zC hs rfl rfl rfl (zCq (j := zAT σ.l (zAu n) σ.floor σ.gone (zA ((L.getD j default).bs))) hs rfl rfl underlying39 (by omega) sizeOf3 rfl (vk K)), fun _ _ _ _ hm hs K => zC hs rfl rfl rfl (zC6 (v := nI (((zAX (zAu n) σ (zA ((L.getD j default).bs))).n) (zAT σ.l (zAu n) σ.floor σ.gone (zA ((L.getD j default).bs))))) hs rfl (hm.del .z) (zHT (by omega)) isAgg3 rfl (vk K)), fun _ _ _ _ hm hs K => zC hs rfl rfl rfl (zDx hs rfl rfl rfl (fun a w hs => wpList_nil (K _ _ (by rw [show (!((((zDv (zAX (zAu n) σ (zA ((L.getD j default).bs))).n ((zAT σ.l (zAu n) σ.floor σ.gone (zA ((L.getD j default).bs)) : Nat) : Int) : Nat) : Int) : Int) == ((((zAX (zAu n) σ (zA ((L.getD j default).bs))).n) (zAT σ.l (zAu n) σ.floor σ.gone (zA ((L.getD j default).bs))) : Nat) : Int))) = true from zTP ce] at hs; exact hs)))), fun _ _ _ _ hm hs K => zC hs rfl rfl rfl (zDx hs rfl rfl rfl (fun a w hs => wpList_nil (K _ _ (by rw [show (!((((zAT σ.l (zAu n) σ.floor σ.gone (zA ((L.getD j default).bs)) : Nat) : Int) : Int) == 0)) = false from by rw [ce]; rfl] at hs; exact hs)))), ⟨rfl, by kernel_rfl, fun _ => rfl, rfl, rfl, trivial⟩, fun _ => rfl, ?_⟩
   refine goE 3 [] [55, 5, 7, 53, 54] .n ⟨(by omega), ?_⟩
   refine cl (·.reorder (.c (.s (.s (.s .z))) (.c .z (.c .z (.c .z .n))))) ?_
   intro a w hs; refine ⟨_, ?_, j + 1, X9, (zAX (zAu n) σ (zA ((L.getD j default).bs))), u11, l12, rfl, hs.sub (.c rfl (.c rfl (.c rfl (.c rfl (.c rfl .n))))), by omega, hX10, (zGz hI1_2), hl13, (zFm hI1_4)⟩
   omega
  intro a w hs
  refine zS (dcs [.p [] [], .p [] [], .v [1, 0] (.bool (false)), .p [2] [], .p [3] [], .p [3] [], .v [5, 4, 3] (.bool (false)), .p [6, 3] [], .p [7] [], .p [8] [], .v [9, 8] (nI ((zAX (zAu n) σ (zA ((L.getD j default).bs))).l.length)), .p [8] [], .p [11, 8] [], .p [12, 8] [], .p [13, 8] [0], .v [14, 8] (nI l12.length), .v [15, 10, 8] (.bool (false)), .p [16, 8] [], .p [17] [], .p [18] [], .v [19, 18] (nI ((zAX (zAu n) σ (zA ((L.getD j default).bs))).n 0)), .p [18] [], .p [21, 18] [], .p [22, 18] [], .p [23, 18] [], .p [24, 18] [0], .v [25, 20, 18] (.bool (false)), .p [26, 18] []] [.p [27] [], .p [28] [], .p [28] [], .v [30, 29, 28] (nI (zDv (zAX (zAu n) σ (zA ((L.getD j default).bs))).n ((zAT σ.l (zAu n) σ.floor σ.gone (zA ((L.getD j default).bs)) : Nat) : Int))), .p [28] [], .p [28] [], .p [32, 28] [], .p [34, 28] [], .v [35, 33, 28] (pt g7 (3 + (zAT σ.l (zAu n) σ.floor σ.gone (zA ((L.getD j default).bs))))), .v [36, 28] (nI (((zAX (zAu n) σ (zA ((L.getD j default).bs))).n) (zAT σ.l (zAu n) σ.floor σ.gone (zA ((L.getD j default).bs))))), .v [37, 31, 28] (.bool (false)), .p [38, 28] [], .p [39] [], .v [40, 39] undef, .p [41, 39, 28] [], .p [42, 28] []]) [43] hs .n (.c .z .n) (by kernel_rfl) ⟨fun _ _ _ _ hm hs K => zDx hs rfl rfl rfl (fun a w hs => wpList_nil (K _ _ (by rw [show (!((zGW σ.l (zAu n) σ.floor σ.gone (zA ((L.getD j default).bs)) : Int) == (zGW σ.l (zAu n) σ.floor σ.gone (zA ((L.getD j default).bs))))) = false from congrArg (!·) (beq_self_eq_true _)] at hs; exact hs))), fun _ _ _ _ hm hs K => zC hs rfl rfl rfl (zDx hs rfl rfl rfl (fun a w hs => wpList_nil (K _ _ (by rw [show (!((((zAT σ.l (zAu n) σ.floor σ.gone (zA ((L.getD j default).bs)) : Nat) : Int) : Int) == ((zAT σ.l (zAu n) σ.floor σ.gone (zA ((L.getD j default).bs)) : Nat) : Int))) = false from congrArg (!·) (beq_self_eq_true _)] at hs; exact hs)))), fun _ _ _ _ hm hs K => zC hs rfl rfl rfl (zH (v := nI ((zAX (zAu n) σ (zA ((L.getD j default).bs))).l.length)) hs (.c rfl .n) call11 (zPU hX10 _ (hm.del (.s (.s (.s .z))))) rfl (vk K)), rfl, fun _ _ _ _ hm hs K => zC hs rfl rfl rfl (zAG hs rfl (zAC (hm.del (.s .z))).isSl underlying38 rfl (vk K)), fun _ _ _ _ hm hs K => zC hs rfl rfl rfl (zDx hs rfl rfl rfl (fun a w hs => wpList_nil (K _ _ (by rw [show (!(((((zAX (zAu n) σ (zA ((L.getD j default).bs))).l.length : Nat) : Int) : Int) == ((l12.length : Nat) : Int))) = false from by rw [hl13, zAJ]; exact congrArg (!·) (beq_self_eq_true _)] at hs; exact hs)))), fun _ _ _ _ hm hs K => zC hs rfl rfl rfl (zH (v := nI ((zAX (zAu n) σ (zA ((L.getD j default).bs))).n 0)) hs (.c rfl .n) call12 (zJv hX10 _ (hm.del (.s (.s (.s .z))))) rfl (vk K)), rfl, fun _ _ _ _ hm hs K => zC hs rfl rfl rfl (zDx hs rfl rfl rfl (fun a w hs => wpList_nil (K _ _ (by rw [show (!(((((zAX (zAu n) σ (zA ((L.getD j default).bs))).n 0 : Nat) : Int) : Int) == ((((zAX (zAu n) σ (zA ((L.getD j default).bs))).n) 0 : Nat) : Int))) = false from congrArg (!·) (beq_self_eq_true _)] at hs; exact hs)))), fun _ _ _ _ hm hs K => zC hs rfl rfl rfl (zH (v := nI (zDv (zAX (zAu n) σ (zA ((L.getD j default).bs))).n ((zAT σ.l (zAu n) σ.floor σ.gone (zA ((L.getD j default).bs)) : Nat) : Int))) hs (.c rfl (.c rfl .n)) call13 (zD6 hX10 ((zAT σ.l (zAu n) σ.floor σ.gone (zA ((L.getD j default).bs)) : Nat) : Int) _ (hm.del (.s (.s (.s .z)))) (by omega)) rfl (vk K)), fun _ _ _ _ hm hs K => zC hs rfl rfl rfl (zCq (j := zAT σ.l (zAu n) σ.floor σ.gone (zA ((L.getD j default).bs))) hs rfl rfl underlying39 (by omega) sizeOf3 rfl (vk K)), fun _ _ _ _ hm hs K => zC hs rfl rfl rfl (zC6 (v := nI (((zAX (zAu n) σ (zA ((L.getD j default).bs))).n) (zAT σ.l (zAu n) σ.floor σ.gone (zA ((L.getD j default).bs))))) hs rfl (hm.del .z) (zHT (by omega)) isAgg3 rfl (vk K)), fun _ _ _ _ hm hs K => zC hs rfl rfl rfl (zDx hs rfl rfl rfl (fun a w hs => wpList_nil (K _ _ (by rw [show (!((((zDv (zAX (zAu n) σ (zA ((L.getD j default).bs))).n ((zAT σ.l (zAu n) σ.floor σ.gone (zA ((L.getD j default).bs)) : Nat) : Int) : Nat) : Int) : Int) == ((((zAX (zAu n) σ (zA ((L.getD j default).bs))).n) (zAT σ.l (zAu n) σ.floor σ.gone (zA ((L.getD j default).bs))) : Nat) : Int))) = false from zVb ce he17] at hs; exact hs)))), fun _ _ _ _ hm hs K => zAz hs rfl rfl rfl rfl rfl (vk K), ⟨rfl, by kernel_rfl, fun _ => rfl, rfl, rfl, trivial⟩, fun _ => rfl, ?_⟩
  refine goE 3 [] [55, 5, 7, 53, 54] .n ⟨(by omega), ?_⟩
  refine cl (·.reorder (.c (.s (.s (.s .z))) (.c .z (.c .z (.c .z .n))))) ?_
  intro a w hs; refine ⟨_, ?_, j + 1, X9, (zAX (zAu n) σ (zA ((L.getD j default).bs))), u11, l12, rfl, hs.sub (.c rfl (.c rfl (.c rfl (.c rfl (.c rfl .n))))), by omega, hX10, (zGz hI1_2), hl13, (zFm hI1_4)⟩
  omega
 have hll : l.length ≤ 64 := by have h1 := hI1_4.le; have h2 := hI1_4.m64; rw [hI1_3, zAJ] at h1; omega
 refine go 4 [0] [119, 5, 7] (.c (.s .z) .n) ⟨rfl, ?_⟩
 intro a w hs; refine zAG hs rfl (zAC (hs.mem.del (.s (.s .z)))).isSl underlying38 rfl ?_
 refine goL 1 [] [121, 120, 119, 5, 7] .n ?_
 intro a w hs; refine zCA (fun mm_ a w => ∃ i : Nat, mm_ = l.length - i ∧ St 175 [(5, pt g1 0), (7, pt g7 0), (119, q), (120, nI l.length), (121, nI i)] w0 [] [blk g7 [q, nI (zAu n), zI (dfl σ.floor σ.gone), nI (σ.n 0), nI (σ.n 1), nI (σ.n 2), nI (σ.n 3), nI (σ.n 4), nI (σ.n 5), nI (σ.n 6), nI (σ.n 7), nI (σ.n 8), nI (σ.n 9), nI (σ.n 10), nI (σ.n 11), nI (σ.n 12), nI (σ.n 13), nI (σ.n 14), nI (σ.n 15), nI (σ.n 16), nI (σ.n 17)] 41, X, zC8 q 3 l.length (l.flatMap snV), rws 72 l] a w ∧ i ≤ l.length) ⟨0, rfl, hs.sub (.c rfl (.c rfl (.c rfl (.c rfl (.c rfl .n))))), by omega⟩ ?_
 clear hs w a; rintro mm_ a w ⟨i, rfl, hs, hI2_0⟩
 revert a w hs
 refine go 1 [] [122, 5, 7, 119, 120, 121] .n ?_
 refine ifG rfl (fun c_16 => ?_) (fun c_16 => ?_)
 ·
  refine go 1 [] [123, 5, 7, 119, 120, 121] .n ?_
  intro a w hs; refine zBj (j := i) hs rfl rfl (zAC (hs.mem.del (.s (.s .z)))) rfl (by omega) underlying38 sizeOf45 rfl ?_
  intro a w hs; refine zCm (cs := snV (l.getD i default)) hs rfl (zAC (hs.mem.del (.s (.s .z)))) (zBe zBq l i (by omega)) (by rw [zBH zBq]; omega) (by omega) isAgg45 sizeOf45 rfl ?_
  have hA := zR2 hI1_3 hI1_4 (by omega : i < l.length)
  refine goL 2 [] [14, 15, 125, 5, 7, 119, 120, 121] .n (fun g17 => ?_)
  intro a w hs; refine zA4 hs rfl rfl .z (.z (.c (.c (.c .n)))) (zN rfl (zN rfl (zN (zDP (hs.mem.del (.s (.s (.s (.s .z))))) (.inl (zJr (by omega)))).isSl.one zBS))) sizeOf45 rfl ?_
  refine goL 2 [] [128, 127, 15, 5, 7, 119, 120, 121] .n ?_
  intro a w hs; refine zO hs (.c rfl (.c rfl .n)) call14 .n (zVD hI1_1 ((i : Nat) : Int) _ (hs.mem.del (.s (.s .z)))) rfl ?_; clear hs w a; rintro _ _ a w ⟨v18, rfl, rfl⟩ hs
  revert a w hs
  refine goL 4 [] [16, 131, 130, 15, 5, 7, 119, 120, 121] .n (fun g19 => ?_)
  intro a w hs; refine zA4 hs rfl rfl .z (.z (.c (.c (.c .n)))) (zN rfl (zN rfl (zN (zM (hs.mem.del (.s .z))).isSl.one zBS))) sizeOf45 rfl ?_
  refine goL 4 [0] [135, 133, 17, 16, 15, 5, 7, 119, 120, 121] (.c (.s (.s .z)) .n) ⟨rfl, ?_⟩
  intro a w hs; refine zO hs (.c rfl (.c rfl .n)) call15 .n (zVU hI1_1 ((l.getD i default).t) _ (hs.mem.del (.s (.s (.s (.s .z)))))) rfl ?_; clear hs w a; rintro _ _ a w ⟨v20, rfl, rfl⟩ hs
  revert a w hs
  refine goL 4 [] [18, 138, 137, 17, 16, 15, 5, 7, 119, 120, 121] .n (fun g21 => ?_)
  intro a w hs; refine zA4 hs rfl rfl .z (.z (.c (.c (.c .n)))) (zN rfl (zN rfl (zN (zM (hs.mem.del (.s .z))).isSl.one zBS))) sizeOf45 rfl ?_
  refine goL 3 [] [140, 19, 18, 16, 15, 5, 7, 119, 120, 121] .n ?_
  have hb_ : (!((((zH5 σ.l ((i : Nat) : Int) : Nat) : Int) : Int) == 0)) = false := by rw [hA.1]; rfl
  intro a w hs; rw [hb_] at hs; clear hb_
  revert a w hs
  refine go 3 [] [143, 141, 18, 16, 15, 5, 7, 119, 120, 121] .n ?_
  have hb_ : (!(zB9 σ.l ((l.getD i default).t))) = false := by rw [hA.2.2.1]; rfl
  intro a w hs; rw [hb_] at hs; clear hb_
  revert a w hs
  refine go 4 [0, 1] [147, 146, 145, 18, 15, 5, 7, 119, 120, 121] (.c (.s (.s .z)) (.c (.s (.s .z)) .n)) ⟨rfl, rfl, ?_⟩
  intro a w hs; refine zC hs rfl rfl rfl ?_
  refine zH (v := .bool (zFl ((l.getD i default).t) ((l.getD i default).tm) ((l.getD i default).l) ((sat σ.l ((i : Nat) : Int)).t) ((sat σ.l ((i : Nat) : Int)).tm) ((sat σ.l ((i : Nat) : Int)).l))) hs (.c rfl (.c rfl .n)) call16 (zL2 ((l.getD i default).t) ((l.getD i default).tm) _ ((l.getD i default).l) ((sat σ.l ((i : Nat) : Int)).t) ((sat σ.l ((i : Nat) : Int)).tm) _ ((sat σ.l ((i : Nat) : Int)).l) _ (zDP (hs.mem.del (.s (.s (.s (.s (.s (.s (.s (.s .z))))))))) (.inl (zJr (by omega)))) (zM (hs.mem.del (.s (.s (.s (.s .z))))))) rfl ?_
  refine goL 1 [] [149, 145, 18, 15, 5, 7, 119, 120, 121] .n ?_
  have hb_ : (!(zFl ((l.getD i default).t) ((l.getD i default).tm) ((l.getD i default).l) ((sat σ.l ((i : Nat) : Int)).t) ((sat σ.l ((i : Nat) : Int)).tm) ((sat σ.l ((i : Nat) : Int)).l))) = false := by rw [hA.2.1]; exact congrArg (!·) (zI0 _ _ _)
  intro a w hs; rw [hb_] at hs; clear hb_
  revert a w hs
  refine go 4 [0, 1] [153, 152, 151, 5, 7, 119, 120, 121] (.c .z (.c (.s .z) .n)) ⟨rfl, rfl, ?_⟩
  intro a w hs; refine zC hs rfl rfl rfl ?_
  refine zH (v := .bool (zFl ((l.getD i default).t) ((l.getD i default).tm) ((l.getD i default).l) ((zFz σ.l ((l.getD i default).t)).t) ((zFz σ.l ((l.getD i default).t)).tm) ((zFz σ.l ((l.getD i default).t)).l))) hs (.c rfl (.c rfl .n)) call16 (zL2 ((l.getD i default).t) ((l.getD i default).tm) _ ((l.getD i default).l) ((zFz σ.l ((l.getD i default).t)).t) ((zFz σ.l ((l.getD i default).t)).tm) _ ((zFz σ.l ((l.getD i default).t)).l) _ (zDP (hs.mem.del (.s (.s (.s (.s (.s (.s (.s (.s .z))))))))) (.inl (zJr (by omega)))) (zM (hs.mem.del (.s (.s (.s .z)))))) rfl ?_
  refine goL 1 [] [155, 151, 5, 7, 119, 120, 121] .n ?_
  have hb_ : (!(zFl ((l.getD i default).t) ((l.getD i default).tm) ((l.getD i default).l) ((zFz σ.l ((l.getD i default).t)).t) ((zFz σ.l ((l.getD i default).t)).tm) ((zFz σ.l ((l.getD i default).t)).l))) = false := by rw [hA.2.2.2]; exact congrArg (!·) (zI0 _ _ _)
  intro a w hs; rw [hb_] at hs; clear hb_
  revert a w hs
  refine go 4 [] [121, 5, 7, 119, 120] .n ⟨(by omega), ?_⟩
  refine cl (·.drop (.c (.s (.s (.s (.s .z)))) (.c (.s (.s (.s .z))) (.c (.s (.s .z)) (.c (.s .z) (.c .z .n)))))) ?_
  intro a w hs; refine ⟨_, ?_, i + 1, rfl, hs.sub (.c rfl (.c rfl (.c rfl (.c rfl (.c rfl .n))))), by omega⟩
  omega
 refine go 1 [] [20, 5, 7] .n ?_
 intro a w hs; refine zCA (fun mm_ a w => ∃ i : Nat, mm_ = 18 - i ∧ St 175 [(5, pt g1 0), (7, pt g7 0), (20, nI i)] w0 [] [blk g7 [q, nI (zAu n), zI (dfl σ.floor σ.gone), nI (σ.n 0), nI (σ.n 1), nI (σ.n 2), nI (σ.n 3), nI (σ.n 4), nI (σ.n 5), nI (σ.n 6), nI (σ.n 7), nI (σ.n 8), nI (σ.n 9), nI (σ.n 10), nI (σ.n 11), nI (σ.n 12), nI (σ.n 13), nI (σ.n 14), nI (σ.n 15), nI (σ.n 16), nI (σ.n 17)] 41, X, zC8 q 3 l.length (l.flatMap snV), rws 72 l] a w ∧ 1 ≤ i ∧ i ≤ 18) ⟨1, rfl, hs.sub (.c rfl (.c rfl (.c rfl .n))), by omega, by omega⟩ ?_
 clear hs w a; rintro mm_ a w ⟨i, rfl, hs, hI3_0, hI3_1⟩
 revert a w hs
 refine go 2 [] [159, 5, 7, 20] .n ?_
 refine ifG rfl (fun c_22 => ?_) (fun c_22 => ?_)
 ·
  refine go 0 [] [5, 7, 20] .n ?_
  intro a w hs
  refine zS [.p [] [], .p [] [], .v [1, 0] (nI (zDv σ.n ((i : Nat) : Int))), .p [] [], .p [] [], .p [3] [], .p [5] [], .v [6, 4] (pt g7 (3 + i)), .v [7] (nI (σ.n i)), .v [8, 2] (.bool (false))] [9] hs .n .n (by kernel_rfl) ⟨fun _ _ _ _ hm hs K => zH (v := nI (zDv σ.n ((i : Nat) : Int))) hs (.c rfl (.c rfl .n)) call13 (zD6 hI1_1 ((i : Nat) : Int) _ (hm.del (.s .z)) (by omega)) rfl (vk K), fun _ _ _ _ hm hs K => zCq (j := i) hs rfl rfl underlying39 (by omega) sizeOf3 rfl (vk K), fun _ _ _ _ hm hs K => zC6 (v := nI (σ.n i)) hs rfl (hm.del .z) (zHT (by omega)) isAgg3 rfl (vk K), fun _ _ _ _ hm hs K => zDx hs rfl rfl rfl (fun a w hs => wpList_nil (K _ _ (by rw [show (!((((zDv σ.n ((i : Nat) : Int) : Nat) : Int) : Int) == ((σ.n i : Nat) : Int))) = false from by rw [zL8 (by omega) (by omega)]; exact congrArg (!·) (beq_self_eq_true _)] at hs; exact hs))), ⟨rfl, by kernel_rfl, fun _ => rfl, rfl, rfl, trivial⟩, fun _ => rfl, ?_⟩
  refine goE 4 [] [20, 5, 7] .n ⟨(by omega), ?_⟩
  intro a w hs; refine ⟨_, ?_, i + 1, rfl, hs.sub (.c rfl (.c rfl (.c rfl .n))), by omega, by omega⟩
  omega
 refine go 1 [] [172] .n ?_
 intro a w hs; refine zH (v := nI (zDv σ.n 0)) hs (.c rfl (.c rfl .n)) call13 (zD6 hI1_1 0 _ (hs.mem.del (.s .z)) (by omega)) rfl ?_
 refine goL 1 [] [174] .n ?_
 have hb_ : ((((zDv σ.n 0 : Nat) : Int) : Int) == 0) = true := by rw [show zDv σ.n 0 = 0 from if_neg (by omega)]; rfl
 intro a w hs; rw [hb_] at hs; clear hb_
 revert a w hs
 refine go 1 [] [4] .n ?_
 refine cl (·.drop (.c (.s (.s (.s .z))) (.c (.s (.s .z)) (.c (.s .z) (.c .z .n))))) ?_
 intro a w hs; exact fin hs rfl rfl ⟨rfl, rfl⟩
end Go.Proofs.YtbacobmcfelmkaaGreat
