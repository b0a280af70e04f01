/- Walks of records: what each function does, over the program of this seat. Printed by a program of this session. -/
import Derived.Test.YtbioemaipghagaaGreatQWrd2
import Derived.Test.YtbioemaipghagaaGreatQSxBasB
import Derived.Test.YtbioemaipghagaaGreatQSxPrecR
namespace Go.Proofs.YtbioemaipghagaaGreat
open Go Go.Sx Go.RowKit
set_option linter.unusedVariables false
set_option linter.unusedSimpArgs false
set_option maxRecDepth 4000
set_option maxHeartbeats 1000000

theorem chk_ok (r : RecR) (w0 : World) : Calls Tryz.prog 63 #[.agg #[.int .i64 (r.k), .int .i64 (r.id), .int .i64 (r.p0), .int .i64 (r.p1), .int .i64 (r.p2), .int .i64 (r.v0), .int .i64 (r.v1), .int .i64 (r.v2), .int .u16 ((((r.a).toNat : Nat) : Int))]] w0 (RetV w0 (.int .i64 ((recChk r : Nat) : Int))) := by
  refine enter (F0 := [(0, .agg #[.int .i64 (r.k), .int .i64 (r.id), .int .i64 (r.p0), .int .i64 (r.p1), .int .i64 (r.p2), .int .i64 (r.v0), .int .i64 (r.v1), .int .i64 (r.v2), .int .u16 ((((r.a).toNat : Nat) : Int))])]) Tryz.func63 rfl rfl rfl (.c .n) (Mem.nil _) fun a w hs => ?_
  refine wp_seq_k fun K1 hK2 => ?_
  refine wp_region_lit ?_
  refine st_box (cs := [.int .i64 (r.k), .int .i64 (r.id), .int .i64 (r.p0), .int .i64 (r.p1), .int .i64 (r.p2), .int .i64 (r.v0), .int .i64 (r.v1), .int .i64 (r.v2), .int .u16 ((((r.a).toNat : Nat) : Int))]) hs rfl rfl rfl ?_; clear hs w a; intro g3 a w hs
  refine st_as hs rfl rfl ?_; clear hs w a; intro a w hs
  refine wpList_nil ?_
  refine then_n (hK2 _ _ ?_)
  refine wp_seq_k fun K4 hK5 => ?_
  refine wp_region_lit ?_
  refine st_run 4 [(7, .int .i64 (r.id)), (5, .int .i64 (r.k))] hs (.c (hs.mem.del .z) (.c (hs.mem.del .z) .n)) (by kernel_rfl) (by kernel_rfl) (by kernel_rfl) ?_; clear hs a; intro a hs
  refine st_build (it := Tryz.t78) (zs := [.int .i64 (0), .int .i64 (0), .int .i64 (0), .int .i64 (0), .int .i64 (0), .int .i64 (0), .int .i64 (0), .int .i64 (0), .int .u16 (0)]) (places := [(0, 1), (1, 1), (2, 3), (5, 3), (8, 1)]) hs (.c rfl (.c rfl .n)) Tryz.underlying78 rfl rfl rfl rfl (.c rfl rfl (.z (.c .n)) (.c rfl rfl (.s (.z (.c .n))) .n)) rfl ?_; clear hs w a; intro a w hs
  refine st_alloc (cs := [.int .i64 (0), .int .i64 (0), .int .i64 (0), .int .i64 (0), .int .i64 (0), .int .i64 (0), .int .i64 (0), .int .i64 (0), .int .u16 (0)]) hs Tryz.zeroValue78 rfl rfl ?_; clear hs w a; intro g6 a w hs
  refine st_stBA hs rfl rfl .z (.z (.c (.c (.c (.c (.c (.c (.c (.c (.c .n)))))))))) (ones_c rfl (ones_c rfl (ones_c rfl (ones_c rfl (ones_c rfl (ones_c rfl (ones_c rfl (ones_c rfl (ones_c rfl ones_n))))))))) Tryz.sizeOf78 rfl ?_; clear hs w a; intro a w hs
  refine wpList_nil ?_
  refine then_n (hK5 _ _ ?_)
  refine wp_seq_k fun K7 hK8 => ?_
  refine wp_block ?_
  refine wp_seq_k fun K9 hK10 => ?_
  refine wp_region_lit ?_
  refine st_run 4 [(13, .bool (decide (r.k < 0)))] hs (.c (hs.mem.del (.s .z)) .n) (by kernel_rfl) (by kernel_rfl) (by kernel_rfl) ?_; clear hs a; intro a hs
  refine st_part (b := decide (r.k < 0)) (fun hc11 => ?_) (fun hc11 => ?_)
  ·
   rw [hc11] at hs
   replace hc11 := of_decide_eq_true hc11
   refine st_run 5 [(9, .bool (true))] hs .n (by kernel_rfl) (by kernel_rfl) (by kernel_rfl) ?_; clear hs a; intro a hs
   refine wpList_nil ?_
   refine then_n (hK10 _ _ ?_)
   refine wp_cond_true (hs.ev rfl) ?_
   refine wp_seq_k fun K12 hK13 => ?_
   refine wp_region_lit ?_
   refine st_as hs rfl rfl ?_; clear hs w a; intro a w hs
   refine wpList_nil ?_
   refine then_n (hK13 _ _ ?_)
   refine wp_ret ?_
   refine in_r ?_
   refine th_r ?_
   replace hs := hs.drop (.c (.s .z) (.c .z .n))
   exact fin hs rfl rfl ⟨congrArg (Value.int .i64) (by unfold recChk; first | (rw [if_pos (by omega)]; rfl) | (rw [if_neg (by omega), if_pos (by omega)]; rfl) | (rw [if_neg (by omega), if_neg (by omega), if_pos (by first | exact .inl ⟨by omega, by assumption⟩ | exact .inr ⟨by omega, by assumption⟩)]; rfl) | (rw [if_neg (by omega), if_neg (by omega), if_neg (by rintro (⟨_, h_⟩ | ⟨_, h_⟩) <;> first | omega | simp_all)]; rfl)), rfl⟩
  rw [hc11] at hs
  replace hc11 := of_decide_eq_false hc11
  refine st_run 5 [(9, .bool (decide (3 < r.k)))] hs (.c (hs.mem.del (.s .z)) .n) (by kernel_rfl) (by kernel_rfl) (by kernel_rfl) ?_; clear hs a; intro a hs
  refine wpList_nil ?_
  refine then_n (hK10 _ _ ?_)
  refine wp_if hs rfl (fun hc14 => ?_) (fun hc14 => ?_)
  ·
   replace hc14 := of_decide_eq_true hc14
   refine wp_seq_k fun K15 hK16 => ?_
   refine wp_region_lit ?_
   refine st_as hs rfl rfl ?_; clear hs w a; intro a w hs
   refine wpList_nil ?_
   refine then_n (hK16 _ _ ?_)
   refine wp_ret ?_
   refine in_r ?_
   refine th_r ?_
   replace hs := hs.drop (.c (.s .z) (.c .z .n))
   exact fin hs rfl rfl ⟨congrArg (Value.int .i64) (by unfold recChk; first | (rw [if_pos (by omega)]; rfl) | (rw [if_neg (by omega), if_pos (by omega)]; rfl) | (rw [if_neg (by omega), if_neg (by omega), if_pos (by first | exact .inl ⟨by omega, by assumption⟩ | exact .inr ⟨by omega, by assumption⟩)]; rfl) | (rw [if_neg (by omega), if_neg (by omega), if_neg (by rintro (⟨_, h_⟩ | ⟨_, h_⟩) <;> first | omega | simp_all)]; rfl)), rfl⟩
  replace hc14 := of_decide_eq_false hc14
  refine wp_seq_k fun K17 hK18 => ?_
  refine wp_region_lit ?_
  refine st_run 4 [(22, .bool (decide (r.id < 0)))] hs (.c (hs.mem.del (.s .z)) .n) (by kernel_rfl) (by kernel_rfl) (by kernel_rfl) ?_; clear hs a; intro a hs
  refine st_part (b := decide (r.id < 0)) (fun hc19 => ?_) (fun hc19 => ?_)
  ·
   rw [hc19] at hs
   replace hc19 := of_decide_eq_true hc19
   refine st_run 5 [(18, .bool (true))] hs .n (by kernel_rfl) (by kernel_rfl) (by kernel_rfl) ?_; clear hs a; intro a hs
   refine wpList_nil ?_
   refine then_n (hK18 _ _ ?_)
   refine wp_cond_true (hs.ev rfl) ?_
   refine wp_seq_k fun K20 hK21 => ?_
   refine wp_region_lit ?_
   refine st_as hs rfl rfl ?_; clear hs w a; intro a w hs
   refine wpList_nil ?_
   refine then_n (hK21 _ _ ?_)
   refine wp_ret ?_
   refine in_r ?_
   refine th_r ?_
   replace hs := hs.drop (.c (.s .z) (.c .z .n))
   exact fin hs rfl rfl ⟨congrArg (Value.int .i64) (by unfold recChk; first | (rw [if_pos (by omega)]; rfl) | (rw [if_neg (by omega), if_pos (by omega)]; rfl) | (rw [if_neg (by omega), if_neg (by omega), if_pos (by first | exact .inl ⟨by omega, by assumption⟩ | exact .inr ⟨by omega, by assumption⟩)]; rfl) | (rw [if_neg (by omega), if_neg (by omega), if_neg (by rintro (⟨_, h_⟩ | ⟨_, h_⟩) <;> first | omega | simp_all)]; rfl)), rfl⟩
  rw [hc19] at hs
  replace hc19 := of_decide_eq_false hc19
  refine st_run 5 [(18, .bool (decide (65535 < r.id)))] hs (.c (hs.mem.del (.s .z)) .n) (by kernel_rfl) (by kernel_rfl) (by kernel_rfl) ?_; clear hs a; intro a hs
  refine wpList_nil ?_
  refine then_n (hK18 _ _ ?_)
  refine wp_if hs rfl (fun hc22 => ?_) (fun hc22 => ?_)
  ·
   replace hc22 := of_decide_eq_true hc22
   refine wp_seq_k fun K23 hK24 => ?_
   refine wp_region_lit ?_
   refine st_as hs rfl rfl ?_; clear hs w a; intro a w hs
   refine wpList_nil ?_
   refine then_n (hK24 _ _ ?_)
   refine wp_ret ?_
   refine in_r ?_
   refine th_r ?_
   replace hs := hs.drop (.c (.s .z) (.c .z .n))
   exact fin hs rfl rfl ⟨congrArg (Value.int .i64) (by unfold recChk; first | (rw [if_pos (by omega)]; rfl) | (rw [if_neg (by omega), if_pos (by omega)]; rfl) | (rw [if_neg (by omega), if_neg (by omega), if_pos (by first | exact .inl ⟨by omega, by assumption⟩ | exact .inr ⟨by omega, by assumption⟩)]; rfl) | (rw [if_neg (by omega), if_neg (by omega), if_neg (by rintro (⟨_, h_⟩ | ⟨_, h_⟩) <;> first | omega | simp_all)]; rfl)), rfl⟩
  replace hc22 := of_decide_eq_false hc22
  refine wp_seq_k fun K25 hK26 => ?_
  refine wp_seq_k fun K27 hK28 => ?_
  refine wp_region_lit ?_
  refine st_run 4 [(31, .bool ((r.k : Int) == 1))] hs (.c (hs.mem.del (.s .z)) .n) (by kernel_rfl) (by kernel_rfl) (by kernel_rfl) ?_; clear hs a; intro a hs
  refine st_part (b := (r.k : Int) == 1) (fun hc29 => ?_) (fun hc29 => ?_)
  ·
   rw [hc29] at hs
   replace hc29 := eq_of_beq hc29
   refine st_run 2 [(33, .agg #[.int .i64 (r.k), .int .i64 (r.id), .int .i64 (0), .int .i64 (0), .int .i64 (0), .int .i64 (0), .int .i64 (0), .int .i64 (0), .int .u16 (0)]), (32, .agg #[.int .i64 (r.k), .int .i64 (r.id), .int .i64 (r.p0), .int .i64 (r.p1), .int .i64 (r.p2), .int .i64 (r.v0), .int .i64 (r.v1), .int .i64 (r.v2), .int .u16 ((((r.a).toNat : Nat) : Int))])] hs (.c (hs.mem.del (.s .z)) (.c (hs.mem.del .z) .n)) (by kernel_rfl) (by kernel_rfl) (by kernel_rfl) ?_; clear hs a; intro a hs
   refine st_guardT hs rfl rfl rfl ?_
   refine st_eqF (xs := [.int .i64 (r.k), .int .i64 (r.id), .int .i64 (r.p0), .int .i64 (r.p1), .int .i64 (r.p2), .int .i64 (r.v0), .int .i64 (r.v1), .int .i64 (r.v2), .int .u16 ((((r.a).toNat : Nat) : Int))]) (ys := [.int .i64 (r.k), .int .i64 (r.id), .int .i64 (0), .int .i64 (0), .int .i64 (0), .int .i64 (0), .int .i64 (0), .int .i64 (0), .int .u16 (0)]) (ks := [.i .i64, .i .i64, .i .i64, .i .i64, .i .i64, .i .i64, .i .i64, .i .i64, .i .u16]) 6 hs rfl rfl (by kernel_rfl) (by kernel_rfl) (by kernel_rfl) (by decide) (.i (.i (.i (.i (.i (.i (.i (.i (.i .n))))))))) (.i (.i (.i (.i (.i (.i (.i (.i (.i .n))))))))) rfl ?_; clear hs w a; intro a w hs
   rw [show eqCells _ _ = recEmpty r from eq_bare r] at hs
   refine st_run 2 [(27, .bool (recEmpty r))] hs .n (by kernel_rfl) (by kernel_rfl) (by kernel_rfl) ?_; clear hs a; intro a hs
   refine wpList_nil ?_
   refine then_n (hK28 _ _ ?_)
   refine wp_if hs rfl (fun hc30 => ?_) (fun hc30 => ?_)
   ·
    refine wp_skip ?_
    refine then_n (hK26 _ _ ?_)
    refine wp_if hs rfl (fun hc31 => ?_) (fun hc31 => ?_)
    ·
     refine wp_seq_k fun K32 hK33 => ?_
     refine wp_region_lit ?_
     refine st_as hs rfl rfl ?_; clear hs w a; intro a w hs
     refine wpList_nil ?_
     refine then_n (hK33 _ _ ?_)
     refine wp_ret ?_
     refine in_r ?_
     refine th_r ?_
     replace hs := hs.drop (.c (.s .z) (.c .z .n))
     exact fin hs rfl rfl ⟨congrArg (Value.int .i64) (by unfold recChk; first | (rw [if_pos (by omega)]; rfl) | (rw [if_neg (by omega), if_pos (by omega)]; rfl) | (rw [if_neg (by omega), if_neg (by omega), if_pos (by first | exact .inl ⟨by omega, by assumption⟩ | exact .inr ⟨by omega, by assumption⟩)]; rfl) | (rw [if_neg (by omega), if_neg (by omega), if_neg (by rintro (⟨_, h_⟩ | ⟨_, h_⟩) <;> first | omega | simp_all)]; rfl)), rfl⟩
    refine wp_skip ?_
    refine in_n ?_
    refine then_n (hK8 _ _ ?_)
    refine wp_seq_k fun K34 hK35 => ?_
    refine wp_region_lit ?_
    refine st_as hs rfl rfl ?_; clear hs w a; intro a w hs
    refine wpList_nil ?_
    refine then_n (hK35 _ _ ?_)
    refine wp_ret ?_
    replace hs := hs.drop (.c (.s .z) (.c .z .n))
    exact fin hs rfl rfl ⟨congrArg (Value.int .i64) (by unfold recChk; first | (rw [if_pos (by omega)]; rfl) | (rw [if_neg (by omega), if_pos (by omega)]; rfl) | (rw [if_neg (by omega), if_neg (by omega), if_pos (by first | exact .inl ⟨by omega, by assumption⟩ | exact .inr ⟨by omega, by assumption⟩)]; rfl) | (rw [if_neg (by omega), if_neg (by omega), if_neg (by rintro (⟨_, h_⟩ | ⟨_, h_⟩) <;> first | omega | simp_all)]; rfl)), rfl⟩
   refine wp_region_lit ?_
   refine st_run 4 [(39, .bool ((r.k : Int) == 2))] hs (.c (hs.mem.del (.s .z)) .n) (by kernel_rfl) (by kernel_rfl) (by kernel_rfl) ?_; clear hs a; intro a hs
   refine st_part (b := (r.k : Int) == 2) (fun hc36 => ?_) (fun hc36 => ?_)
   ·
    rw [hc36] at hs
    replace hc36 := eq_of_beq hc36
    refine st_run 2 [(41, .agg #[.int .i64 (r.k), .int .i64 (r.id), .int .i64 (0), .int .i64 (0), .int .i64 (0), .int .i64 (0), .int .i64 (0), .int .i64 (0), .int .u16 (0)]), (40, .agg #[.int .i64 (r.k), .int .i64 (r.id), .int .i64 (r.p0), .int .i64 (r.p1), .int .i64 (r.p2), .int .i64 (r.v0), .int .i64 (r.v1), .int .i64 (r.v2), .int .u16 ((((r.a).toNat : Nat) : Int))])] hs (.c (hs.mem.del (.s .z)) (.c (hs.mem.del .z) .n)) (by kernel_rfl) (by kernel_rfl) (by kernel_rfl) ?_; clear hs a; intro a hs
    refine st_guardT hs rfl rfl rfl ?_
    refine st_neqF (xs := [.int .i64 (r.k), .int .i64 (r.id), .int .i64 (r.p0), .int .i64 (r.p1), .int .i64 (r.p2), .int .i64 (r.v0), .int .i64 (r.v1), .int .i64 (r.v2), .int .u16 ((((r.a).toNat : Nat) : Int))]) (ys := [.int .i64 (r.k), .int .i64 (r.id), .int .i64 (0), .int .i64 (0), .int .i64 (0), .int .i64 (0), .int .i64 (0), .int .i64 (0), .int .u16 (0)]) (ks := [.i .i64, .i .i64, .i .i64, .i .i64, .i .i64, .i .i64, .i .i64, .i .i64, .i .u16]) 6 hs rfl rfl (by kernel_rfl) (by kernel_rfl) (by kernel_rfl) (by decide) (.i (.i (.i (.i (.i (.i (.i (.i (.i .n))))))))) (.i (.i (.i (.i (.i (.i (.i (.i (.i .n))))))))) rfl ?_; clear hs w a; intro a w hs
    rw [show eqCells _ _ = recEmpty r from eq_bare r] at hs
    refine st_run 2 [(27, .bool (!(recEmpty r)))] hs .n (by kernel_rfl) (by kernel_rfl) (by kernel_rfl) ?_; clear hs a; intro a hs
    refine wpList_nil ?_
    refine then_n (hK26 _ _ ?_)
    refine wp_if hs rfl (fun hc37 => ?_) (fun hc37 => ?_)
    ·
     replace hc37 := not_t hc37
     refine wp_seq_k fun K38 hK39 => ?_
     refine wp_region_lit ?_
     refine st_as hs rfl rfl ?_; clear hs w a; intro a w hs
     refine wpList_nil ?_
     refine then_n (hK39 _ _ ?_)
     refine wp_ret ?_
     refine in_r ?_
     refine th_r ?_
     replace hs := hs.drop (.c (.s .z) (.c .z .n))
     exact fin hs rfl rfl ⟨congrArg (Value.int .i64) (by unfold recChk; first | (rw [if_pos (by omega)]; rfl) | (rw [if_neg (by omega), if_pos (by omega)]; rfl) | (rw [if_neg (by omega), if_neg (by omega), if_pos (by first | exact .inl ⟨by omega, by assumption⟩ | exact .inr ⟨by omega, by assumption⟩)]; rfl) | (rw [if_neg (by omega), if_neg (by omega), if_neg (by rintro (⟨_, h_⟩ | ⟨_, h_⟩) <;> first | omega | simp_all)]; rfl)), rfl⟩
    replace hc37 := not_f hc37
    refine wp_skip ?_
    refine in_n ?_
    refine then_n (hK8 _ _ ?_)
    refine wp_seq_k fun K40 hK41 => ?_
    refine wp_region_lit ?_
    refine st_as hs rfl rfl ?_; clear hs w a; intro a w hs
    refine wpList_nil ?_
    refine then_n (hK41 _ _ ?_)
    refine wp_ret ?_
    replace hs := hs.drop (.c (.s .z) (.c .z .n))
    exact fin hs rfl rfl ⟨congrArg (Value.int .i64) (by unfold recChk; first | (rw [if_pos (by omega)]; rfl) | (rw [if_neg (by omega), if_pos (by omega)]; rfl) | (rw [if_neg (by omega), if_neg (by omega), if_pos (by first | exact .inl ⟨by omega, by assumption⟩ | exact .inr ⟨by omega, by assumption⟩)]; rfl) | (rw [if_neg (by omega), if_neg (by omega), if_neg (by rintro (⟨_, h_⟩ | ⟨_, h_⟩) <;> first | omega | simp_all)]; rfl)), rfl⟩
   rw [hc36] at hs
   replace hc36 := ne_of_beq_f hc36
   refine st_run 5 [(27, .bool (false))] hs .n (by kernel_rfl) (by kernel_rfl) (by kernel_rfl) ?_; clear hs a; intro a hs
   refine wpList_nil ?_
   refine then_n (hK26 _ _ ?_)
   refine wp_cond_false (hs.ev rfl) ?_
   refine wp_skip ?_
   refine in_n ?_
   refine then_n (hK8 _ _ ?_)
   refine wp_seq_k fun K42 hK43 => ?_
   refine wp_region_lit ?_
   refine st_as hs rfl rfl ?_; clear hs w a; intro a w hs
   refine wpList_nil ?_
   refine then_n (hK43 _ _ ?_)
   refine wp_ret ?_
   replace hs := hs.drop (.c (.s .z) (.c .z .n))
   exact fin hs rfl rfl ⟨congrArg (Value.int .i64) (by unfold recChk; first | (rw [if_pos (by omega)]; rfl) | (rw [if_neg (by omega), if_pos (by omega)]; rfl) | (rw [if_neg (by omega), if_neg (by omega), if_pos (by first | exact .inl ⟨by omega, by assumption⟩ | exact .inr ⟨by omega, by assumption⟩)]; rfl) | (rw [if_neg (by omega), if_neg (by omega), if_neg (by rintro (⟨_, h_⟩ | ⟨_, h_⟩) <;> first | omega | simp_all)]; rfl)), rfl⟩
  rw [hc29] at hs
  replace hc29 := ne_of_beq_f hc29
  refine st_run 5 [(27, .bool (false))] hs .n (by kernel_rfl) (by kernel_rfl) (by kernel_rfl) ?_; clear hs a; intro a hs
  refine wpList_nil ?_
  refine then_n (hK28 _ _ ?_)
  refine wp_cond_false (hs.ev rfl) ?_
  refine wp_region_lit ?_
  refine st_run 4 [(39, .bool ((r.k : Int) == 2))] hs (.c (hs.mem.del (.s .z)) .n) (by kernel_rfl) (by kernel_rfl) (by kernel_rfl) ?_; clear hs a; intro a hs
  refine st_part (b := (r.k : Int) == 2) (fun hc44 => ?_) (fun hc44 => ?_)
  ·
   rw [hc44] at hs
   replace hc44 := eq_of_beq hc44
   refine st_run 2 [(41, .agg #[.int .i64 (r.k), .int .i64 (r.id), .int .i64 (0), .int .i64 (0), .int .i64 (0), .int .i64 (0), .int .i64 (0), .int .i64 (0), .int .u16 (0)]), (40, .agg #[.int .i64 (r.k), .int .i64 (r.id), .int .i64 (r.p0), .int .i64 (r.p1), .int .i64 (r.p2), .int .i64 (r.v0), .int .i64 (r.v1), .int .i64 (r.v2), .int .u16 ((((r.a).toNat : Nat) : Int))])] hs (.c (hs.mem.del (.s .z)) (.c (hs.mem.del .z) .n)) (by kernel_rfl) (by kernel_rfl) (by kernel_rfl) ?_; clear hs a; intro a hs
   refine st_guardT hs rfl rfl rfl ?_
   refine st_neqF (xs := [.int .i64 (r.k), .int .i64 (r.id), .int .i64 (r.p0), .int .i64 (r.p1), .int .i64 (r.p2), .int .i64 (r.v0), .int .i64 (r.v1), .int .i64 (r.v2), .int .u16 ((((r.a).toNat : Nat) : Int))]) (ys := [.int .i64 (r.k), .int .i64 (r.id), .int .i64 (0), .int .i64 (0), .int .i64 (0), .int .i64 (0), .int .i64 (0), .int .i64 (0), .int .u16 (0)]) (ks := [.i .i64, .i .i64, .i .i64, .i .i64, .i .i64, .i .i64, .i .i64, .i .i64, .i .u16]) 6 hs rfl rfl (by kernel_rfl) (by kernel_rfl) (by kernel_rfl) (by decide) (.i (.i (.i (.i (.i (.i (.i (.i (.i .n))))))))) (.i (.i (.i (.i (.i (.i (.i (.i (.i .n))))))))) rfl ?_; clear hs w a; intro a w hs
   rw [show eqCells _ _ = recEmpty r from eq_bare r] at hs
   refine st_run 2 [(27, .bool (!(recEmpty r)))] hs .n (by kernel_rfl) (by kernel_rfl) (by kernel_rfl) ?_; clear hs a; intro a hs
   refine wpList_nil ?_
   refine then_n (hK26 _ _ ?_)
   refine wp_if hs rfl (fun hc45 => ?_) (fun hc45 => ?_)
   ·
    replace hc45 := not_t hc45
    refine wp_seq_k fun K46 hK47 => ?_
    refine wp_region_lit ?_
    refine st_as hs rfl rfl ?_; clear hs w a; intro a w hs
    refine wpList_nil ?_
    refine then_n (hK47 _ _ ?_)
    refine wp_ret ?_
    refine in_r ?_
    refine th_r ?_
    replace hs := hs.drop (.c (.s .z) (.c .z .n))
    exact fin hs rfl rfl ⟨congrArg (Value.int .i64) (by unfold recChk; first | (rw [if_pos (by omega)]; rfl) | (rw [if_neg (by omega), if_pos (by omega)]; rfl) | (rw [if_neg (by omega), if_neg (by omega), if_pos (by first | exact .inl ⟨by omega, by assumption⟩ | exact .inr ⟨by omega, by assumption⟩)]; rfl) | (rw [if_neg (by omega), if_neg (by omega), if_neg (by rintro (⟨_, h_⟩ | ⟨_, h_⟩) <;> first | omega | simp_all)]; rfl)), rfl⟩
   replace hc45 := not_f hc45
   refine wp_skip ?_
   refine in_n ?_
   refine then_n (hK8 _ _ ?_)
   refine wp_seq_k fun K48 hK49 => ?_
   refine wp_region_lit ?_
   refine st_as hs rfl rfl ?_; clear hs w a; intro a w hs
   refine wpList_nil ?_
   refine then_n (hK49 _ _ ?_)
   refine wp_ret ?_
   replace hs := hs.drop (.c (.s .z) (.c .z .n))
   exact fin hs rfl rfl ⟨congrArg (Value.int .i64) (by unfold recChk; first | (rw [if_pos (by omega)]; rfl) | (rw [if_neg (by omega), if_pos (by omega)]; rfl) | (rw [if_neg (by omega), if_neg (by omega), if_pos (by first | exact .inl ⟨by omega, by assumption⟩ | exact .inr ⟨by omega, by assumption⟩)]; rfl) | (rw [if_neg (by omega), if_neg (by omega), if_neg (by rintro (⟨_, h_⟩ | ⟨_, h_⟩) <;> first | omega | simp_all)]; rfl)), rfl⟩
  rw [hc44] at hs
  replace hc44 := ne_of_beq_f hc44
  refine st_run 5 [(27, .bool (false))] hs .n (by kernel_rfl) (by kernel_rfl) (by kernel_rfl) ?_; clear hs a; intro a hs
  refine wpList_nil ?_
  refine then_n (hK26 _ _ ?_)
  refine wp_cond_false (hs.ev rfl) ?_
  refine wp_skip ?_
  refine in_n ?_
  refine then_n (hK8 _ _ ?_)
  refine wp_seq_k fun K50 hK51 => ?_
  refine wp_region_lit ?_
  refine st_as hs rfl rfl ?_; clear hs w a; intro a w hs
  refine wpList_nil ?_
  refine then_n (hK51 _ _ ?_)
  refine wp_ret ?_
  replace hs := hs.drop (.c (.s .z) (.c .z .n))
  exact fin hs rfl rfl ⟨congrArg (Value.int .i64) (by unfold recChk; first | (rw [if_pos (by omega)]; rfl) | (rw [if_neg (by omega), if_pos (by omega)]; rfl) | (rw [if_neg (by omega), if_neg (by omega), if_pos (by first | exact .inl ⟨by omega, by assumption⟩ | exact .inr ⟨by omega, by assumption⟩)]; rfl) | (rw [if_neg (by omega), if_neg (by omega), if_neg (by rintro (⟨_, h_⟩ | ⟨_, h_⟩) <;> first | omega | simp_all)]; rfl)), rfl⟩
theorem nums_ok (g : Nat) (w0 : World) : Calls Tryz.prog 87 #[.pointer (some ⟨g, 0, none⟩)] w0 (RetV w0 (.agg #[.pointer (some ⟨g, 2, none⟩), .pointer (some ⟨g, 3, none⟩), .pointer (some ⟨g, 4, none⟩), .pointer (some ⟨g, 5, none⟩), .pointer (some ⟨g, 6, none⟩), .pointer (some ⟨g, 7, none⟩)])) := by
  refine enter (F0 := [(0, .pointer (some ⟨g, 0, none⟩))]) Tryz.func87 rfl rfl rfl (.c .n) (Mem.nil _) fun a w hs => ?_
  refine wp_seq_k fun K1 hK2 => ?_
  refine wp_region_lit ?_
  refine st_alloc (cs := [.pointer (none), .pointer (none), .pointer (none), .pointer (none), .pointer (none), .pointer (none)]) hs Tryz.zeroValue153 rfl rfl ?_; clear hs w a; intro g3 a w hs
  refine wpList_nil ?_
  refine then_n (hK2 _ _ ?_)
  refine wp_seq_k fun K4 hK5 => ?_
  replace hs := hs.sub (F' := [(2, .pointer (some ⟨g3, 0, none⟩)), (0, .pointer (some ⟨g, 0, none⟩))]) (.c rfl (.c rfl .n))
  refine wp_drawG (M0 := []) (Ds := [Pv 0 (.pointer (some ⟨g, 0, none⟩)), Pv 1 (.pointer (some ⟨g, 0, none⟩)), Pv 2 (.pointer (some ⟨g, 2, none⟩)), Pv 3 (.pointer (some ⟨g, 2, none⟩)), Pv 4 (.pointer (some ⟨g, 0, none⟩)), Pv 5 (.pointer (some ⟨g, 0, none⟩)), Pv 6 (.pointer (some ⟨g, 2, none⟩)), Pv 7 (.pointer (some ⟨g, 3, none⟩)), Pv 8 (.pointer (some ⟨g, 0, none⟩)), Pv 9 (.pointer (some ⟨g, 0, none⟩)), Pv 10 (.pointer (some ⟨g, 2, none⟩)), Pv 11 (.pointer (some ⟨g, 4, none⟩)), Pv 12 (.pointer (some ⟨g, 0, none⟩)), Pv 13 (.pointer (some ⟨g, 0, none⟩)), Pv 14 (.pointer (some ⟨g, 5, none⟩)), Pv 15 (.pointer (some ⟨g, 5, none⟩)), Pv 16 (.pointer (some ⟨g, 0, none⟩)), Pv 17 (.pointer (some ⟨g, 0, none⟩)), Pv 18 (.pointer (some ⟨g, 5, none⟩)), Pv 19 (.pointer (some ⟨g, 6, none⟩)), Pv 20 (.pointer (some ⟨g, 0, none⟩)), Pv 21 (.pointer (some ⟨g, 0, none⟩)), Pv 22 (.pointer (some ⟨g, 5, none⟩)), Pv 23 (.pointer (some ⟨g, 7, none⟩)), Pv 24 (.agg #[.pointer (some ⟨g, 2, none⟩), .pointer (some ⟨g, 3, none⟩), .pointer (some ⟨g, 4, none⟩), .pointer (some ⟨g, 5, none⟩), .pointer (some ⟨g, 6, none⟩), .pointer (some ⟨g, 7, none⟩)]), ⟨[blk g3 [.pointer (none), .pointer (none), .pointer (none), .pointer (none), .pointer (none), .pointer (none)] 153], [], [], fun vs6 => True, fun vs6 => [blk g3 [.pointer (some ⟨g, 2, none⟩), .pointer (some ⟨g, 3, none⟩), .pointer (some ⟨g, 4, none⟩), .pointer (some ⟨g, 5, none⟩), .pointer (some ⟨g, 6, none⟩), .pointer (some ⟨g, 7, none⟩)] 153], none⟩]) (by kernel_rfl) hs rfl (.c .z .n) (by kernel_rfl) (by kernel_rfl) (by kernel_rfl) ?_ ?_
  ·
   refine (.c ?_ (.c ?_ (.c ?_ (.c ?_ (.c ?_ (.c ?_ (.c ?_ (.c ?_ (.c ?_ (.c ?_ (.c ?_ (.c ?_ (.c ?_ (.c ?_ (.c ?_ (.c ?_ (.c ?_ (.c ?_ (.c ?_ (.c ?_ (.c ?_ (.c ?_ (.c ?_ (.c ?_ (.c ?_ (.c ?_ .n))))))))))))))))))))))))))
   · exact trip_pv (m := 26) .n (fun hm0 hm hx => .n) (by kernel_rfl) (by kernel_rfl) rfl
   · exact trip_pv (m := 26) (.c (k := 0) (by kernel_rfl) rfl rfl .n) (fun hm0 hm hx => .n) (by kernel_rfl) (by kernel_rfl) rfl
   · exact trip_pv (m := 26) (.c (k := 1) (by kernel_rfl) rfl rfl .n) (fun hm0 hm hx => .n) (by kernel_rfl) (by kernel_rfl) rfl
   · exact trip_pv (m := 26) (.c (k := 2) (by kernel_rfl) rfl rfl .n) (fun hm0 hm hx => .n) (by kernel_rfl) (by kernel_rfl) rfl
   · exact trip_pv (m := 26) .n (fun hm0 hm hx => .n) (by kernel_rfl) (by kernel_rfl) rfl
   · exact trip_pv (m := 26) (.c (k := 4) (by kernel_rfl) rfl rfl .n) (fun hm0 hm hx => .n) (by kernel_rfl) (by kernel_rfl) rfl
   · exact trip_pv (m := 26) (.c (k := 5) (by kernel_rfl) rfl rfl .n) (fun hm0 hm hx => .n) (by kernel_rfl) (by kernel_rfl) rfl
   · exact trip_pv (m := 26) (.c (k := 6) (by kernel_rfl) rfl rfl .n) (fun hm0 hm hx => .n) (by kernel_rfl) (by kernel_rfl) rfl
   · exact trip_pv (m := 26) .n (fun hm0 hm hx => .n) (by kernel_rfl) (by kernel_rfl) rfl
   · exact trip_pv (m := 26) (.c (k := 8) (by kernel_rfl) rfl rfl .n) (fun hm0 hm hx => .n) (by kernel_rfl) (by kernel_rfl) rfl
   · exact trip_pv (m := 26) (.c (k := 9) (by kernel_rfl) rfl rfl .n) (fun hm0 hm hx => .n) (by kernel_rfl) (by kernel_rfl) rfl
   · exact trip_pv (m := 26) (.c (k := 10) (by kernel_rfl) rfl rfl .n) (fun hm0 hm hx => .n) (by kernel_rfl) (by kernel_rfl) rfl
   · exact trip_pv (m := 26) .n (fun hm0 hm hx => .n) (by kernel_rfl) (by kernel_rfl) rfl
   · exact trip_pv (m := 26) (.c (k := 12) (by kernel_rfl) rfl rfl .n) (fun hm0 hm hx => .n) (by kernel_rfl) (by kernel_rfl) rfl
   · exact trip_pv (m := 26) (.c (k := 13) (by kernel_rfl) rfl rfl .n) (fun hm0 hm hx => .n) (by kernel_rfl) (by kernel_rfl) rfl
   · exact trip_pv (m := 26) (.c (k := 14) (by kernel_rfl) rfl rfl .n) (fun hm0 hm hx => .n) (by kernel_rfl) (by kernel_rfl) rfl
   · exact trip_pv (m := 26) .n (fun hm0 hm hx => .n) (by kernel_rfl) (by kernel_rfl) rfl
   · exact trip_pv (m := 26) (.c (k := 16) (by kernel_rfl) rfl rfl .n) (fun hm0 hm hx => .n) (by kernel_rfl) (by kernel_rfl) rfl
   · exact trip_pv (m := 26) (.c (k := 17) (by kernel_rfl) rfl rfl .n) (fun hm0 hm hx => .n) (by kernel_rfl) (by kernel_rfl) rfl
   · exact trip_pv (m := 26) (.c (k := 18) (by kernel_rfl) rfl rfl .n) (fun hm0 hm hx => .n) (by kernel_rfl) (by kernel_rfl) rfl
   · exact trip_pv (m := 26) .n (fun hm0 hm hx => .n) (by kernel_rfl) (by kernel_rfl) rfl
   · exact trip_pv (m := 26) (.c (k := 20) (by kernel_rfl) rfl rfl .n) (fun hm0 hm hx => .n) (by kernel_rfl) (by kernel_rfl) rfl
   · exact trip_pv (m := 26) (.c (k := 21) (by kernel_rfl) rfl rfl .n) (fun hm0 hm hx => .n) (by kernel_rfl) (by kernel_rfl) rfl
   · exact trip_pv (m := 26) (.c (k := 22) (by kernel_rfl) rfl rfl .n) (fun hm0 hm hx => .n) (by kernel_rfl) (by kernel_rfl) rfl
   ·
    intro a_ w_ R_ rest_ vs6 hm hs ht hx
    have hm0 := hm.mid
    replace hs := hs.lrn (ht 3 (twB_spec 26 _ (by kernel_rfl))) rfl rfl
    replace hs := hs.lrn (ht 7 (twB_spec 26 _ (by kernel_rfl))) rfl rfl
    replace hs := hs.lrn (ht 11 (twB_spec 26 _ (by kernel_rfl))) rfl rfl
    replace hs := hs.lrn (ht 15 (twB_spec 26 _ (by kernel_rfl))) rfl rfl
    replace hs := hs.lrn (ht 19 (twB_spec 26 _ (by kernel_rfl))) rfl rfl
    replace hs := hs.lrn (ht 23 (twB_spec 26 _ (by kernel_rfl))) rfl rfl
    have hs0 := hs.bare
    refine st_buildA (it := Tryz.t153) (ie := Tryz.t152) (zs := [.pointer (none), .pointer (none), .pointer (none), .pointer (none), .pointer (none), .pointer (none)]) (sz := 1) hs (.c rfl (.c rfl (.c rfl (.c rfl (.c rfl (.c rfl .n)))))) Tryz.underlying153 rfl rfl rfl rfl rfl (.c rfl rfl (.z (.c .n)) (.c rfl rfl (.s (.z (.c .n))) (.c rfl rfl (.s (.s (.z (.c .n)))) (.c rfl rfl (.s (.s (.s (.z (.c .n))))) (.c rfl rfl (.s (.s (.s (.s (.z (.c .n)))))) (.c rfl rfl (.s (.s (.s (.s (.s (.z (.c .n))))))) .n)))))) rfl ?_; clear hs; intro a w hs
    exact wpList_nil ⟨rfl, _, _, hs0, (.c (.c (.c (.c (.c (.c .r)))))), hs, rfl⟩
   intro a_ w_ R_ rest_ vs6 hm hs ht hx
   replace hs : St _ _ _ (feet [blk g3 [.pointer (none), .pointer (none), .pointer (none), .pointer (none), .pointer (none), .pointer (none)] 153]) [blk g3 [.pointer (none), .pointer (none), .pointer (none), .pointer (none), .pointer (none), .pointer (none)] 153] _ _ := hs
   have hm0 := hm.mid
   replace hs := hs.lrn (ht 24 (twB_spec 26 _ (by kernel_rfl))) rfl rfl
   have hs0 := hs.bare
   refine st_stBA hs rfl rfl .z (.z (.c (.c (.c (.c (.c (.c .n))))))) (ones_c rfl (ones_c rfl (ones_c rfl (ones_c rfl (ones_c rfl (ones_c rfl ones_n)))))) Tryz.sizeOf153 rfl ?_; clear hs; intro a w hs
   exact wpList_nil ⟨rfl, .tuple #[], _, hs0, (.c .r), hs, trivial⟩
  clear hs w a; intro a w vs6 hs hf
  replace hs : St _ _ _ _ [blk g3 [.pointer (some ⟨g, 2, none⟩), .pointer (some ⟨g, 3, none⟩), .pointer (some ⟨g, 4, none⟩), .pointer (some ⟨g, 5, none⟩), .pointer (some ⟨g, 6, none⟩), .pointer (some ⟨g, 7, none⟩)] 153] _ _ := hs
  clear hf
  refine then_n (hK5 _ _ ?_)
  refine wp_ret ?_
  exact finC hs rfl rfl .z (.z (.c (.c (.c (.c (.c (.c .n))))))) Tryz.isAgg153 Tryz.sizeOf153 (.c .z .n) ⟨rfl, rfl⟩
theorem number_ok (v : Value) (m : Nat) (bs : List Byte) (x : Int) (w0 : World) (hr : (row v 5 1 m (bytesV bs)).p w0) (hm : m ≤ 200000) (hx : -9223372036854775808 ≤ x ∧ x ≤ 9223372036854775807) : Calls Tryz.prog 162 #[v, .int .i64 x] w0 (Ret w0 (feet [row v 5 1 m (bytesV bs)]) fun u N => N = [row u 5 1 (m + (numB x).length) (bytesV (bs ++ numB x))]) := by
  have hvl := vlen_le (zigI x).toNat
  refine enter (F0 := [(0, v), (1, .int .i64 (x))]) Tryz.func162 rfl rfl rfl (.c (.c .n)) (mem_one hr row_nd) fun a w hs => ?_
  refine wp_seq_k fun K1 hK2 => ?_
  refine wp_region_lit ?_
  refine st_as hs rfl rfl ?_; clear hs w a; intro a w hs
  refine wpList_nil ?_
  refine then_n (hK2 _ _ ?_)
  refine wp_seq_k fun K3 hK4 => ?_
  refine wp_region_lit ?_
  refine st_run 2 [(6, .int .i64 (x)), (5, v)] hs .n (by kernel_rfl) (by kernel_rfl) (by kernel_rfl) ?_; clear hs a; intro a hs
  refine st_callP (v := .int .u64 ((((zigI x).toNat : Nat) : Int))) hs (.c rfl .n) Tryz.call92 (zig_ok x _ (by omega)) rfl ?_; clear hs w a; intro a w hs
  refine st_call hs (.c rfl .n) Tryz.call93 .n (put_ok (zigI x) _) rfl ?_; clear hs w a; rintro v5 _ a w rfl hs; simp only [List.cons_append, List.nil_append] at hs
  refine st_app (size := 1) (bytes := 1) hs rfl rfl (.s .z) (rd_row (hs.mem.del .z)) (oneCell_bytesV _) Tryz.underlying37 (i := Tryz.t5) rfl rfl rfl rfl rfl (by decide) (by omega) (by simp only [maxLen]; omega) rfl ?_; clear hs w a; intro v6 a w hs
  refine st_as hs rfl rfl ?_; clear hs w a; intro a w hs
  refine wpList_nil ?_
  refine then_n (hK4 _ _ ?_)
  refine wp_ret ?_
  replace hs := hs.drop (.c (.s .z) .n)
  replace hs := hs.rerow .z (m' := m + (numB x).length) (xs' := bytesV (bs ++ numB x)) (by simp only [numB, vlen]) (by simp only [bytesV_append, numB])
  exact fin hs rfl rfl rfl
theorem writeAll_ok (v : Value) (m : Nat) (bs : List Byte) (g : Nat) (r : RecR) (w0 : World) (hr : (row v 5 1 m (bytesV bs)).p w0) (hm : m ≤ 100000) (hg : (blk g [.int .i64 (r.k), .int .i64 (r.id), .int .i64 (r.p0), .int .i64 (r.p1), .int .i64 (r.p2), .int .i64 (r.v0), .int .i64 (r.v1), .int .i64 (r.v2), .int .u16 ((((r.a).toNat : Nat) : Int))] 78).p w0) (hw : r.wf) : Calls Tryz.prog 139 #[v, .pointer (some ⟨g, 0, none⟩)] w0 (Ret w0 (feet [row v 5 1 m (bytesV bs)]) fun u N => N = [row u 5 1 (m + (recAll r).length) (bytesV (bs ++ recAll r))]) := by
  have hwf := hw.facts
  have hva := vlen10 r.a.toNat
  refine enter (F0 := [(0, v), (1, .pointer (some ⟨g, 0, none⟩))]) Tryz.func139 rfl rfl rfl (.c (.c .n)) (mem_one hr row_nd) fun a w hs => ?_
  refine wp_seq_k fun K1 hK2 => ?_
  refine wp_region_lit ?_
  refine st_as hs rfl rfl ?_; clear hs w a; intro a w hs
  refine wpList_nil ?_
  refine then_n (hK2 _ _ ?_)
  refine wp_seq_k fun K3 hK4 => ?_
  refine wp_seq_k fun K5 hK6 => ?_
  refine wp_region_lit ?_
  refine st_mv hs rfl rfl ?_; clear hs w a; intro a w hs
  refine st_callP (v := .agg #[.pointer (some ⟨g, 2, none⟩), .pointer (some ⟨g, 3, none⟩), .pointer (some ⟨g, 4, none⟩), .pointer (some ⟨g, 5, none⟩), .pointer (some ⟨g, 6, none⟩), .pointer (some ⟨g, 7, none⟩)]) hs (.c rfl .n) Tryz.call87 (nums_ok g _) rfl ?_; clear hs w a; intro a w hs
  refine st_mv hs rfl rfl ?_; clear hs w a; intro a w hs
  refine wpList_nil ?_
  refine then_n (hK6 _ _ ?_)
  refine wp_block ?_
  refine wp_loop_rounds 7 ?_
  refine rounds_in ?_
  refine wp_seq_k fun K7 hK8 => ?_
  refine wp_region_lit ?_
  refine st_lss hs rfl rfl rfl ?_; clear hs w a; intro a w hs
  rw [show (decide ((0 : Int) < 6)) = true from by decide] at hs
  refine wpList_nil ?_
  refine then_n (hK8 _ _ ?_)
  refine wp_seq_k fun K9 hK10 => ?_
  refine wp_cond_true (hs.ev rfl) ?_
  refine wp_skip ?_
  refine then_n (hK10 _ _ ?_)
  refine wp_seq_k fun K11 hK12 => ?_
  refine wp_block ?_
  refine wp_seq_k fun K13 hK14 => ?_
  refine wp_region_lit ?_
  refine st_run 2 [(6, .pointer (some ⟨g, 2, none⟩)), (11, .pointer (some ⟨g, 2, none⟩))] hs .n (by kernel_rfl) (by kernel_rfl) (by kernel_rfl) ?_; clear hs a; intro a hs
  refine wpList_nil ?_
  refine then_n (hK14 _ _ ?_)
  refine wp_region_lit ?_
  refine st_run 4 [(15, .int .i64 (r.p0)), (14, .pointer (some ⟨g, 2, none⟩)), (13, .pointer (some ⟨g, 2, none⟩)), (12, v)] hs (.c (hs.mem.keep hg (row_blk hr hg (by decide))) .n) (by kernel_rfl) (by kernel_rfl) (by kernel_rfl) ?_; clear hs a; intro a hs
  refine st_call hs (.c rfl (.c rfl .n)) Tryz.call162 (.c .z .n) (number_ok _ _ bs r.p0 _ (hs.mem.del .z) (by omega) (by omega)) rfl ?_; clear hs w a; rintro v15 _ a w rfl hs; simp only [List.cons_append, List.nil_append] at hs
  have hk16 := length_numB r.p0
  refine st_as hs rfl rfl ?_; clear hs w a; intro a w hs
  refine wpList_nil ?_
  refine in_n ?_
  refine then_n (hK12 _ _ ?_)
  refine wp_region_lit ?_
  refine st_run 2 [(9, .int .i64 (1)), (17, .int .i64 (1))] hs .n (by kernel_rfl) (by kernel_rfl) (by kernel_rfl) ?_; clear hs a; intro a hs
  refine wpList_nil ?_
  refine then_n ?_
  refine rounds_in ?_
  refine wp_seq_k fun K17 hK18 => ?_
  refine wp_region_lit ?_
  refine st_lss hs rfl rfl rfl ?_; clear hs w a; intro a w hs
  rw [show (decide ((1 : Int) < 6)) = true from by decide] at hs
  refine wpList_nil ?_
  refine then_n (hK18 _ _ ?_)
  refine wp_seq_k fun K19 hK20 => ?_
  refine wp_cond_true (hs.ev rfl) ?_
  refine wp_skip ?_
  refine then_n (hK20 _ _ ?_)
  refine wp_seq_k fun K21 hK22 => ?_
  refine wp_block ?_
  refine wp_seq_k fun K23 hK24 => ?_
  refine wp_region_lit ?_
  refine st_run 2 [(6, .pointer (some ⟨g, 3, none⟩)), (11, .pointer (some ⟨g, 3, none⟩))] hs .n (by kernel_rfl) (by kernel_rfl) (by kernel_rfl) ?_; clear hs a; intro a hs
  refine wpList_nil ?_
  refine then_n (hK24 _ _ ?_)
  refine wp_region_lit ?_
  refine st_run 4 [(15, .int .i64 (r.p1)), (14, .pointer (some ⟨g, 3, none⟩)), (13, .pointer (some ⟨g, 3, none⟩)), (12, v15)] hs (.c (hs.mem.keep hg (row_blk hr hg (by decide))) .n) (by kernel_rfl) (by kernel_rfl) (by kernel_rfl) ?_; clear hs a; intro a hs
  refine st_call hs (.c rfl (.c rfl .n)) Tryz.call162 (.c .z .n) (number_ok _ _ (bs ++ numB r.p0) r.p1 _ (hs.mem.del .z) (by omega) (by omega)) rfl ?_; clear hs w a; rintro v25 _ a w rfl hs; simp only [List.cons_append, List.nil_append] at hs
  have hk26 := length_numB r.p1
  refine st_as hs rfl rfl ?_; clear hs w a; intro a w hs
  refine wpList_nil ?_
  refine in_n ?_
  refine then_n (hK22 _ _ ?_)
  refine wp_region_lit ?_
  refine st_run 2 [(9, .int .i64 (2)), (17, .int .i64 (2))] hs .n (by kernel_rfl) (by kernel_rfl) (by kernel_rfl) ?_; clear hs a; intro a hs
  refine wpList_nil ?_
  refine then_n ?_
  refine rounds_in ?_
  refine wp_seq_k fun K27 hK28 => ?_
  refine wp_region_lit ?_
  refine st_lss hs rfl rfl rfl ?_; clear hs w a; intro a w hs
  rw [show (decide ((2 : Int) < 6)) = true from by decide] at hs
  refine wpList_nil ?_
  refine then_n (hK28 _ _ ?_)
  refine wp_seq_k fun K29 hK30 => ?_
  refine wp_cond_true (hs.ev rfl) ?_
  refine wp_skip ?_
  refine then_n (hK30 _ _ ?_)
  refine wp_seq_k fun K31 hK32 => ?_
  refine wp_block ?_
  refine wp_seq_k fun K33 hK34 => ?_
  refine wp_region_lit ?_
  refine st_run 2 [(6, .pointer (some ⟨g, 4, none⟩)), (11, .pointer (some ⟨g, 4, none⟩))] hs .n (by kernel_rfl) (by kernel_rfl) (by kernel_rfl) ?_; clear hs a; intro a hs
  refine wpList_nil ?_
  refine then_n (hK34 _ _ ?_)
  refine wp_region_lit ?_
  refine st_run 4 [(15, .int .i64 (r.p2)), (14, .pointer (some ⟨g, 4, none⟩)), (13, .pointer (some ⟨g, 4, none⟩)), (12, v25)] hs (.c (hs.mem.keep hg (row_blk hr hg (by decide))) .n) (by kernel_rfl) (by kernel_rfl) (by kernel_rfl) ?_; clear hs a; intro a hs
  refine st_call hs (.c rfl (.c rfl .n)) Tryz.call162 (.c .z .n) (number_ok _ _ (((bs ++ numB r.p0) ++ numB r.p1)) r.p2 _ (hs.mem.del .z) (by omega) (by omega)) rfl ?_; clear hs w a; rintro v35 _ a w rfl hs; simp only [List.cons_append, List.nil_append] at hs
  have hk36 := length_numB r.p2
  refine st_as hs rfl rfl ?_; clear hs w a; intro a w hs
  refine wpList_nil ?_
  refine in_n ?_
  refine then_n (hK32 _ _ ?_)
  refine wp_region_lit ?_
  refine st_run 2 [(9, .int .i64 (3)), (17, .int .i64 (3))] hs .n (by kernel_rfl) (by kernel_rfl) (by kernel_rfl) ?_; clear hs a; intro a hs
  refine wpList_nil ?_
  refine then_n ?_
  refine rounds_in ?_
  refine wp_seq_k fun K37 hK38 => ?_
  refine wp_region_lit ?_
  refine st_lss hs rfl rfl rfl ?_; clear hs w a; intro a w hs
  rw [show (decide ((3 : Int) < 6)) = true from by decide] at hs
  refine wpList_nil ?_
  refine then_n (hK38 _ _ ?_)
  refine wp_seq_k fun K39 hK40 => ?_
  refine wp_cond_true (hs.ev rfl) ?_
  refine wp_skip ?_
  refine then_n (hK40 _ _ ?_)
  refine wp_seq_k fun K41 hK42 => ?_
  refine wp_block ?_
  refine wp_seq_k fun K43 hK44 => ?_
  refine wp_region_lit ?_
  refine st_run 2 [(6, .pointer (some ⟨g, 5, none⟩)), (11, .pointer (some ⟨g, 5, none⟩))] hs .n (by kernel_rfl) (by kernel_rfl) (by kernel_rfl) ?_; clear hs a; intro a hs
  refine wpList_nil ?_
  refine then_n (hK44 _ _ ?_)
  refine wp_region_lit ?_
  refine st_run 4 [(15, .int .i64 (r.v0)), (14, .pointer (some ⟨g, 5, none⟩)), (13, .pointer (some ⟨g, 5, none⟩)), (12, v35)] hs (.c (hs.mem.keep hg (row_blk hr hg (by decide))) .n) (by kernel_rfl) (by kernel_rfl) (by kernel_rfl) ?_; clear hs a; intro a hs
  refine st_call hs (.c rfl (.c rfl .n)) Tryz.call162 (.c .z .n) (number_ok _ _ (((((bs ++ numB r.p0) ++ numB r.p1)) ++ numB r.p2)) r.v0 _ (hs.mem.del .z) (by omega) (by omega)) rfl ?_; clear hs w a; rintro v45 _ a w rfl hs; simp only [List.cons_append, List.nil_append] at hs
  have hk46 := length_numB r.v0
  refine st_as hs rfl rfl ?_; clear hs w a; intro a w hs
  refine wpList_nil ?_
  refine in_n ?_
  refine then_n (hK42 _ _ ?_)
  refine wp_region_lit ?_
  refine st_run 2 [(9, .int .i64 (4)), (17, .int .i64 (4))] hs .n (by kernel_rfl) (by kernel_rfl) (by kernel_rfl) ?_; clear hs a; intro a hs
  refine wpList_nil ?_
  refine then_n ?_
  refine rounds_in ?_
  refine wp_seq_k fun K47 hK48 => ?_
  refine wp_region_lit ?_
  refine st_lss hs rfl rfl rfl ?_; clear hs w a; intro a w hs
  rw [show (decide ((4 : Int) < 6)) = true from by decide] at hs
  refine wpList_nil ?_
  refine then_n (hK48 _ _ ?_)
  refine wp_seq_k fun K49 hK50 => ?_
  refine wp_cond_true (hs.ev rfl) ?_
  refine wp_skip ?_
  refine then_n (hK50 _ _ ?_)
  refine wp_seq_k fun K51 hK52 => ?_
  refine wp_block ?_
  refine wp_seq_k fun K53 hK54 => ?_
  refine wp_region_lit ?_
  refine st_run 2 [(6, .pointer (some ⟨g, 6, none⟩)), (11, .pointer (some ⟨g, 6, none⟩))] hs .n (by kernel_rfl) (by kernel_rfl) (by kernel_rfl) ?_; clear hs a; intro a hs
  refine wpList_nil ?_
  refine then_n (hK54 _ _ ?_)
  refine wp_region_lit ?_
  refine st_run 4 [(15, .int .i64 (r.v1)), (14, .pointer (some ⟨g, 6, none⟩)), (13, .pointer (some ⟨g, 6, none⟩)), (12, v45)] hs (.c (hs.mem.keep hg (row_blk hr hg (by decide))) .n) (by kernel_rfl) (by kernel_rfl) (by kernel_rfl) ?_; clear hs a; intro a hs
  refine st_call hs (.c rfl (.c rfl .n)) Tryz.call162 (.c .z .n) (number_ok _ _ (((((((bs ++ numB r.p0) ++ numB r.p1)) ++ numB r.p2)) ++ numB r.v0)) r.v1 _ (hs.mem.del .z) (by omega) (by omega)) rfl ?_; clear hs w a; rintro v55 _ a w rfl hs; simp only [List.cons_append, List.nil_append] at hs
  have hk56 := length_numB r.v1
  refine st_as hs rfl rfl ?_; clear hs w a; intro a w hs
  refine wpList_nil ?_
  refine in_n ?_
  refine then_n (hK52 _ _ ?_)
  refine wp_region_lit ?_
  refine st_run 2 [(9, .int .i64 (5)), (17, .int .i64 (5))] hs .n (by kernel_rfl) (by kernel_rfl) (by kernel_rfl) ?_; clear hs a; intro a hs
  refine wpList_nil ?_
  refine then_n ?_
  refine rounds_in ?_
  refine wp_seq_k fun K57 hK58 => ?_
  refine wp_region_lit ?_
  refine st_lss hs rfl rfl rfl ?_; clear hs w a; intro a w hs
  rw [show (decide ((5 : Int) < 6)) = true from by decide] at hs
  refine wpList_nil ?_
  refine then_n (hK58 _ _ ?_)
  refine wp_seq_k fun K59 hK60 => ?_
  refine wp_cond_true (hs.ev rfl) ?_
  refine wp_skip ?_
  refine then_n (hK60 _ _ ?_)
  refine wp_seq_k fun K61 hK62 => ?_
  refine wp_block ?_
  refine wp_seq_k fun K63 hK64 => ?_
  refine wp_region_lit ?_
  refine st_run 2 [(6, .pointer (some ⟨g, 7, none⟩)), (11, .pointer (some ⟨g, 7, none⟩))] hs .n (by kernel_rfl) (by kernel_rfl) (by kernel_rfl) ?_; clear hs a; intro a hs
  refine wpList_nil ?_
  refine then_n (hK64 _ _ ?_)
  refine wp_region_lit ?_
  refine st_run 4 [(15, .int .i64 (r.v2)), (14, .pointer (some ⟨g, 7, none⟩)), (13, .pointer (some ⟨g, 7, none⟩)), (12, v55)] hs (.c (hs.mem.keep hg (row_blk hr hg (by decide))) .n) (by kernel_rfl) (by kernel_rfl) (by kernel_rfl) ?_; clear hs a; intro a hs
  refine st_call hs (.c rfl (.c rfl .n)) Tryz.call162 (.c .z .n) (number_ok _ _ (((((((((bs ++ numB r.p0) ++ numB r.p1)) ++ numB r.p2)) ++ numB r.v0)) ++ numB r.v1)) r.v2 _ (hs.mem.del .z) (by omega) (by omega)) rfl ?_; clear hs w a; rintro v65 _ a w rfl hs; simp only [List.cons_append, List.nil_append] at hs
  have hk66 := length_numB r.v2
  refine st_as hs rfl rfl ?_; clear hs w a; intro a w hs
  refine wpList_nil ?_
  refine in_n ?_
  refine then_n (hK62 _ _ ?_)
  refine wp_region_lit ?_
  refine st_run 2 [(9, .int .i64 (6)), (17, .int .i64 (6))] hs .n (by kernel_rfl) (by kernel_rfl) (by kernel_rfl) ?_; clear hs a; intro a hs
  refine wpList_nil ?_
  refine then_n ?_
  refine rounds_in ?_
  refine wp_seq_k fun K67 hK68 => ?_
  refine wp_region_lit ?_
  refine st_lss hs rfl rfl rfl ?_; clear hs w a; intro a w hs
  rw [show (decide ((6 : Int) < 6)) = false from by decide] at hs
  refine wpList_nil ?_
  refine then_n (hK68 _ _ ?_)
  refine wp_seq_k fun K69 hK70 => ?_
  refine wp_cond_false (hs.ev rfl) ?_
  refine wp_exit ?_
  refine th_e ?_
  refine th_e ?_
  refine in_hit ?_
  refine then_n (hK4 _ _ ?_)
  refine wp_seq_k fun K71 hK72 => ?_
  refine wp_region_lit ?_
  refine st_run 5 [(22, .int .u16 ((((r.a).toNat : Nat) : Int))), (18, v65)] hs (.c (hs.mem.keep hg (row_blk hr hg (by decide))) .n) (by kernel_rfl) (by kernel_rfl) (by kernel_rfl) ?_; clear hs a; intro a hs
  refine st_cv_u16_u64 (X := r.a) hs rfl rfl Tryz.underlying70 Tryz.underlying129 rfl ?_; clear hs w a; intro a w hs
  refine st_call hs (.c rfl .n) Tryz.call93 .n (put_ok ((r.a).setWidth 64) _) rfl ?_; clear hs w a; rintro v73 _ a w rfl hs; simp only [List.cons_append, List.nil_append] at hs
  replace hs := hs.rerow .z (m' := (vput r.a.toNat).length) (xs' := bytesV (vput r.a.toNat)) (by rw [sw64]; rfl) (by rw [sw64])
  refine st_app (size := 1) (bytes := 1) hs rfl rfl (.s .z) (rd_row (hs.mem.del .z)) (oneCell_bytesV _) Tryz.underlying37 (i := Tryz.t5) rfl rfl rfl rfl rfl (by decide) (by omega) (by simp only [maxLen]; omega) rfl ?_; clear hs w a; intro v74 a w hs
  refine st_as hs rfl rfl ?_; clear hs w a; intro a w hs
  refine wpList_nil ?_
  refine then_n (hK72 _ _ ?_)
  refine wp_ret ?_
  replace hs := hs.drop (.c (.s .z) .n)
  replace hs := hs.rerow .z (m' := m + (recAll r).length) (xs' := bytesV (bs ++ recAll r)) (by simp only [List.length_append, vlen, recAll]; omega) (by simp only [bytesV_append, List.append_assoc, recAll])
  exact fin hs rfl rfl rfl
theorem writeSome_ok (v : Value) (m : Nat) (bs : List Byte) (g : Nat) (r : RecR) (w0 : World) (hr : (row v 5 1 m (bytesV bs)).p w0) (hm : m ≤ 100000) (hg : (blk g [.int .i64 (r.k), .int .i64 (r.id), .int .i64 (r.p0), .int .i64 (r.p1), .int .i64 (r.p2), .int .i64 (r.v0), .int .i64 (r.v1), .int .i64 (r.v2), .int .u16 ((((r.a).toNat : Nat) : Int))] 78).p w0) (hw : r.wf) : Calls Tryz.prog 141 #[v, .pointer (some ⟨g, 0, none⟩)] w0 (Ret w0 (feet [row v 5 1 m (bytesV bs)]) fun u N => N = [row u 5 1 (m + (recSome r).length) (bytesV (bs ++ recSome r))]) := by
  have hwf := hw.facts
  have hva := vlen10 r.a.toNat
  have hml := hr.1
  rw [show (bytesV bs).length = bs.length by simp [bytesV], Nat.mul_one] at hml
  have hlu_ := length_upRest r 0
  refine enter (F0 := [(0, v), (1, .pointer (some ⟨g, 0, none⟩))]) Tryz.func141 rfl rfl rfl (.c (.c .n)) (mem_one hr row_nd) fun a w hs => ?_
  refine wp_seq_k fun K1 hK2 => ?_
  refine wp_region_lit ?_
  refine st_as hs rfl rfl ?_; clear hs w a; intro a w hs
  refine wpList_nil ?_
  refine then_n (hK2 _ _ ?_)
  refine wp_seq_k fun K3 hK4 => ?_
  refine wp_region_lit ?_
  refine st_mv hs rfl rfl ?_; clear hs w a; intro a w hs
  refine st_len hs rfl (rd_row (hs.mem.del .z)).isSl Tryz.underlying37 rfl ?_; clear hs w a; intro a w hs
  refine st_as hs rfl rfl ?_; clear hs w a; intro a w hs
  refine wpList_nil ?_
  refine then_n (hK4 _ _ ?_)
  refine wp_seq_k fun K5 hK6 => ?_
  refine wp_region_lit ?_
  refine st_mv hs rfl rfl ?_; clear hs w a; intro a w hs
  refine st_bs (cs := [.int .u8 (0)]) hs (.c .n) (.c rfl .n) Tryz.underlying37 (ie := Tryz.t5) rfl rfl rfl rfl (by decide) (by decide) rfl (by decide) rfl rfl rfl ?_; clear hs w a; intro g7 a w hs
  refine st_app (size := 1) (bytes := 1) hs rfl rfl (.s .z) (rd_blk (m := 1) (size := 1) (hs.mem.del .z) rfl (by decide)) (by simp [Value.oneCell']) Tryz.underlying37 (i := Tryz.t5) rfl rfl rfl rfl rfl (by decide) (by omega) (by simp only [maxLen]; omega) rfl ?_; clear hs w a; intro v8 a w hs
  replace hs := hs.drop (.c (.s .z) .n)
  replace hs := hs.rerow .z (m' := (m + 1 + (upRest r 0).length)) (xs' := bytesV (bs ++ upMask r 0 :: upRest r 0)) (by simp only [upRest, List.length_nil]) (by simp only [bytesV_append, upMask, upRest]; rfl)
  refine st_as hs rfl rfl ?_; clear hs w a; intro a w hs
  refine wpList_nil ?_
  refine then_n (hK6 _ _ ?_)
  refine wp_seq_k fun K9 hK10 => ?_
  refine wp_seq_k fun K11 hK12 => ?_
  refine wp_region_lit ?_
  refine st_mv hs rfl rfl ?_; clear hs w a; intro a w hs
  refine st_callP (v := .agg #[.pointer (some ⟨g, 2, none⟩), .pointer (some ⟨g, 3, none⟩), .pointer (some ⟨g, 4, none⟩), .pointer (some ⟨g, 5, none⟩), .pointer (some ⟨g, 6, none⟩), .pointer (some ⟨g, 7, none⟩)]) hs (.c rfl .n) Tryz.call87 (nums_ok g _) rfl ?_; clear hs w a; intro a w hs
  refine st_mv hs rfl rfl ?_; clear hs w a; intro a w hs
  refine wpList_nil ?_
  refine then_n (hK12 _ _ ?_)
  refine wp_block ?_
  refine wp_loop_rounds 7 ?_
  refine rounds_in ?_
  refine Go.Sx.wp_cut (fun a w => ∃ q : Value, St 57 [(0, q), (1, .pointer (some ⟨g, 0, none⟩)), (5, .int .i64 ((m : Int))), (14, .agg #[.pointer (some ⟨g, 2, none⟩), .pointer (some ⟨g, 3, none⟩), .pointer (some ⟨g, 4, none⟩), .pointer (some ⟨g, 5, none⟩), .pointer (some ⟨g, 6, none⟩), .pointer (some ⟨g, 7, none⟩)]), (15, .int .i64 (1))] w0 (feet [row v 5 1 m (bytesV bs)]) [row q 5 1 ((m + 1 + (upRest r 1).length)) (bytesV (bs ++ upMask r 1 :: upRest r 1))] a w) ?_ ?_
  ·
   refine wp_seq_k fun K13 hK14 => ?_
   refine wp_region_lit ?_
   refine st_lss hs rfl rfl rfl ?_; clear hs w a; intro a w hs
   rw [show (decide ((0 : Int) < 6)) = true from by decide] at hs
   refine wpList_nil ?_
   refine then_n (hK14 _ _ ?_)
   refine wp_seq_k fun K15 hK16 => ?_
   refine wp_cond_true (hs.ev rfl) ?_
   refine wp_skip ?_
   refine then_n (hK16 _ _ ?_)
   refine wp_seq_k fun K17 hK18 => ?_
   refine wp_block ?_
   refine wp_seq_k fun K19 hK20 => ?_
   refine wp_region_lit ?_
   refine st_run 4 [(7, .pointer (some ⟨g, 2, none⟩)), (6, .int .i64 (0)), (18, .pointer (some ⟨g, 2, none⟩)), (17, .int .i64 (0))] hs .n (by kernel_rfl) (by kernel_rfl) (by kernel_rfl) ?_; clear hs a; intro a hs
   refine wpList_nil ?_
   refine then_n (hK20 _ _ ?_)
   refine wp_seq_k fun K21 hK22 => ?_
   refine wp_region_lit ?_
   refine st_run 4 [(22, .bool (!((r.p0 : Int) == 0))), (21, .int .i64 (r.p0)), (20, .pointer (some ⟨g, 2, none⟩)), (19, .pointer (some ⟨g, 2, none⟩))] hs (.c (hs.mem.keep hg (row_blk hr hg (by decide))) .n) (by kernel_rfl) (by kernel_rfl) (by kernel_rfl) ?_; clear hs a; intro a hs
   refine wpList_nil ?_
   refine then_n (hK22 _ _ ?_)
   refine wp_if hs rfl (fun hc23 => ?_) (fun hc23 => ?_)
   ·
    replace hc23 := not_t hc23
    replace hc23 := ne_of_beq_f hc23
    have hn_ : r.num 0 ≠ 0 := by show r.p0 ≠ 0; assumption
    refine wp_seq_k fun K24 hK25 => ?_
    replace hs := hs.sub (F' := [(22, .bool (!((r.p0 : Int) == 0))), (21, .int .i64 (r.p0)), (20, .pointer (some ⟨g, 2, none⟩)), (19, .pointer (some ⟨g, 2, none⟩)), (7, .pointer (some ⟨g, 2, none⟩)), (6, .int .i64 (0)), (18, .pointer (some ⟨g, 2, none⟩)), (17, .int .i64 (0)), (16, .bool (true)), (15, .int .i64 (0)), (14, .agg #[.pointer (some ⟨g, 2, none⟩), .pointer (some ⟨g, 3, none⟩), .pointer (some ⟨g, 4, none⟩), .pointer (some ⟨g, 5, none⟩), .pointer (some ⟨g, 6, none⟩), .pointer (some ⟨g, 7, none⟩)]), (0, v8), (5, .int .i64 ((m : Int))), (4, .slice none 0 0), (1, .pointer (some ⟨g, 0, none⟩))]) (.c rfl (.c rfl (.c rfl (.c rfl (.c rfl (.c rfl (.c rfl (.c rfl (.c rfl (.c rfl (.c rfl (.c rfl (.c rfl (.c rfl (.c rfl .n)))))))))))))))
    refine wp_drawG (M0 := []) (Ds := [Pv 0 v8, Pv 1 (.int .i64 ((m : Int))), Pv 2 (.pointer (some (adr v8 m))), Pv 3 (.int .u8 ((((upMask r 0).toNat : Nat) : Int))), Pv 4 (.int .i64 (0)), Pv 5 (.int .u8 (((((1#8) <<< 0).toNat : Nat) : Int))), Pv 6 (.int .u8 (((((upMask r 0) ||| ((1#8) <<< 0)).toNat : Nat) : Int))), Pv 7 (.pointer (some (adr v8 m))), ⟨[row v8 5 1 ((m + 1 + (upRest r 0).length)) (bytesV (bs ++ upMask r 0 :: upRest r 0))], [], [], fun vs26 => True, fun vs26 => [row v8 5 1 ((m + 1 + (upRest r 0).length)) (bytesV ((bs ++ upMask r 0 :: upRest r 0).set m ((upMask r 0) ||| ((1#8) <<< 0))))], none⟩]) (by kernel_rfl) hs rfl (.c .z .n) (by kernel_rfl) (by kernel_rfl) (by kernel_rfl) ?_ ?_
    ·
     refine (.c ?_ (.c ?_ (.c ?_ (.c ?_ (.c ?_ (.c ?_ (.c ?_ (.c ?_ (.c ?_ .n)))))))))
     · exact trip_pv (m := 9) .n (fun hm0 hm hx => .n) (by kernel_rfl) (by kernel_rfl) rfl
     · exact trip_pv (m := 9) .n (fun hm0 hm hx => .n) (by kernel_rfl) (by kernel_rfl) rfl
     ·
      intro a_ w_ R_ rest_ vs26 hm hs ht hx
      have hm0 := hm.mid
      replace hs := hs.lrn (ht 0 (twB_spec 9 _ (by kernel_rfl))) rfl rfl
      replace hs := hs.lrn (ht 1 (twB_spec 9 _ (by kernel_rfl))) rfl rfl
      have hs0 := hs.bare
      refine st_ia1 (j := m) hs rfl rfl (rd_row (hm.own (List.mem_append.2 (.inr ((hx 8 (twB_spec 9 _ (by kernel_rfl))).1 _ (List.Mem.head _)))))) rfl (by omega) Tryz.underlying37 Tryz.sizeOf5 rfl ?_; clear hs; intro a w hs
      exact wpList_nil ⟨rfl, _, _, hs0, (.c (.c .r)), hs, rfl⟩
     ·
      intro a_ w_ R_ rest_ vs26 hm hs ht hx
      have hm0 := hm.mid
      replace hs := hs.lrn (ht 2 (twB_spec 9 _ (by kernel_rfl))) rfl rfl
      have hs0 := hs.bare
      refine st_ld hs rfl (rd_row (hm.own (List.mem_append.2 (.inr ((hx 8 (twB_spec 9 _ (by kernel_rfl))).1 _ (List.Mem.head _)))))) (bytesV_getD (bs ++ upMask r 0 :: upRest r 0) (by first | omega | (simp; omega))) Tryz.isAgg5 rfl ?_; clear hs; intro a w hs
      rw [getD_mid hml] at hs
      exact wpList_nil ⟨rfl, _, _, hs0, (.c .r), hs, rfl⟩
     · exact trip_pv (m := 9) .n (fun hm0 hm hx => .n) (by kernel_rfl) (by kernel_rfl) rfl
     ·
      intro a_ w_ R_ rest_ vs26 hm hs ht hx
      have hm0 := hm.mid
      replace hs := hs.lrn (ht 4 (twB_spec 9 _ (by kernel_rfl))) rfl rfl
      have hs0 := hs.bare
      refine st_shl_u8 (X := 1#8) (m := 0) hs rfl (by decide) rfl (by decide) rfl ?_; clear hs; intro a w hs
      exact wpList_nil ⟨rfl, _, _, hs0, (.c .r), hs, rfl⟩
     ·
      intro a_ w_ R_ rest_ vs26 hm hs ht hx
      have hm0 := hm.mid
      replace hs := hs.lrn (ht 3 (twB_spec 9 _ (by kernel_rfl))) rfl rfl
      replace hs := hs.lrn (ht 5 (twB_spec 9 _ (by kernel_rfl))) rfl rfl
      have hs0 := hs.bare
      refine st_or_u8 (X := upMask r 0) (Y := (1#8) <<< 0) hs rfl rfl rfl rfl rfl ?_; clear hs; intro a w hs
      exact wpList_nil ⟨rfl, _, _, hs0, (.c (.c .r)), hs, rfl⟩
     ·
      intro a_ w_ R_ rest_ vs26 hm hs ht hx
      have hm0 := hm.mid
      replace hs := hs.lrn (ht 0 (twB_spec 9 _ (by kernel_rfl))) rfl rfl
      replace hs := hs.lrn (ht 1 (twB_spec 9 _ (by kernel_rfl))) rfl rfl
      have hs0 := hs.bare
      refine st_ia1 (j := m) hs rfl rfl (rd_row (hm.own (List.mem_append.2 (.inr ((hx 8 (twB_spec 9 _ (by kernel_rfl))).1 _ (List.Mem.head _)))))) rfl (by omega) Tryz.underlying37 Tryz.sizeOf5 rfl ?_; clear hs; intro a w hs
      exact wpList_nil ⟨rfl, _, _, hs0, (.c (.c .r)), hs, rfl⟩
     intro a_ w_ R_ rest_ vs26 hm hs ht hx
     replace hs : St _ _ _ (feet [row v8 5 1 ((m + 1 + (upRest r 0).length)) (bytesV (bs ++ upMask r 0 :: upRest r 0))]) [row v8 5 1 ((m + 1 + (upRest r 0).length)) (bytesV (bs ++ upMask r 0 :: upRest r 0))] _ _ := hs
     have hm0 := hm.mid
     replace hs := hs.lrn (ht 6 (twB_spec 9 _ (by kernel_rfl))) rfl rfl
     replace hs := hs.lrn (ht 7 (twB_spec 9 _ (by kernel_rfl))) rfl rfl
     have hs0 := hs.bare
     refine st_stR hs rfl rfl .z (by omega) rfl Tryz.sizeOf5 ?_; clear hs; intro a w hs
     replace hs := hs.rerow .z (m' := (m + 1 + (upRest r 0).length)) (xs' := bytesV ((bs ++ upMask r 0 :: upRest r 0).set m ((upMask r 0) ||| ((1#8) <<< 0)))) (rfl) ((bytesV_set _ _ _).symm)
     exact wpList_nil ⟨rfl, .tuple #[], _, hs0, (.c (.c .r)), hs, trivial⟩
    clear hs w a; intro a w vs26 hs hf
    replace hs : St _ _ _ _ [row v8 5 1 ((m + 1 + (upRest r 0).length)) (bytesV ((bs ++ upMask r 0 :: upRest r 0).set m ((upMask r 0) ||| ((1#8) <<< 0))))] _ _ := hs
    clear hf
    refine then_n (hK25 _ _ ?_)
    refine wp_region_lit ?_
    refine st_mv hs rfl rfl ?_; clear hs w a; intro a w hs
    replace hs := hs.rerow .z (m' := (m + 1 + (upRest r 0).length)) (xs' := bytesV (bs ++ (upMask r 0 ||| (1#8 <<< 0)) :: upRest r 0)) (rfl) (by rw [set_mid hml])
    refine st_run 3 [(34, .int .i64 (r.p0)), (33, .pointer (some ⟨g, 2, none⟩)), (32, .pointer (some ⟨g, 2, none⟩))] hs (.c (hs.mem.keep hg (row_blk hr hg (by decide))) .n) (by kernel_rfl) (by kernel_rfl) (by kernel_rfl) ?_; clear hs a; intro a hs
    refine st_call hs (.c rfl (.c rfl .n)) Tryz.call162 (.c .z .n) (number_ok _ _ ((bs ++ (upMask r 0 ||| (1#8 <<< 0)) :: upRest r 0)) r.p0 _ (hs.mem.del .z) (by omega) (by omega)) rfl ?_; clear hs w a; rintro v27 _ a w rfl hs; simp only [List.cons_append, List.nil_append] at hs
    have hk28 := length_numB r.p0
    refine st_as hs rfl rfl ?_; clear hs w a; intro a w hs
    refine wpList_nil ?_
    refine in_n ?_
    refine then_n (hK18 _ _ ?_)
    refine wp_region_lit ?_
    refine st_run 2 [(15, .int .i64 (1)), (36, .int .i64 (1))] hs .n (by kernel_rfl) (by kernel_rfl) (by kernel_rfl) ?_; clear hs a; intro a hs
    refine wpList_nil ?_
    refine then_n ?_
    replace hs := hs.rerow .z (m' := (m + 1 + (upRest r 1).length)) (xs' := bytesV (bs ++ upMask r 1 :: upRest r 1)) (by first | (rw [upRest_z hz_]) | (rw [upRest_n hn_]; simp only [List.length_append, RecR.num]; omega)) (by first | (rw [upMask_z hz_, upRest_z hz_]) | (rw [upMask_n hn_, upRest_n hn_]; simp [bytesV_append, RecR.num]))
    exact ⟨v27, hs.sub (.c rfl (.c rfl (.c rfl (.c rfl (.c rfl .n)))))⟩
   replace hc23 := not_f hc23
   replace hc23 := eq_of_beq hc23
   have hz_ : r.num 0 = 0 := by show r.p0 = 0; assumption
   refine wp_skip ?_
   refine in_n ?_
   refine then_n (hK18 _ _ ?_)
   refine wp_region_lit ?_
   refine st_run 2 [(15, .int .i64 (1)), (36, .int .i64 (1))] hs .n (by kernel_rfl) (by kernel_rfl) (by kernel_rfl) ?_; clear hs a; intro a hs
   refine wpList_nil ?_
   refine then_n ?_
   replace hs := hs.rerow .z (m' := (m + 1 + (upRest r 1).length)) (xs' := bytesV (bs ++ upMask r 1 :: upRest r 1)) (by first | (rw [upRest_z hz_]) | (rw [upRest_n hn_]; simp only [List.length_append, RecR.num]; omega)) (by first | (rw [upMask_z hz_, upRest_z hz_]) | (rw [upMask_n hn_, upRest_n hn_]; simp [bytesV_append, RecR.num]))
   exact ⟨v8, hs.sub (.c rfl (.c rfl (.c rfl (.c rfl (.c rfl .n)))))⟩
  clear hs w a; rintro a w ⟨q, hs⟩
  have hlu0 := length_upRest r 1
  refine then_n ?_
  refine rounds_in ?_
  refine Go.Sx.wp_cut (fun a w => ∃ q : Value, St 57 [(0, q), (1, .pointer (some ⟨g, 0, none⟩)), (5, .int .i64 ((m : Int))), (14, .agg #[.pointer (some ⟨g, 2, none⟩), .pointer (some ⟨g, 3, none⟩), .pointer (some ⟨g, 4, none⟩), .pointer (some ⟨g, 5, none⟩), .pointer (some ⟨g, 6, none⟩), .pointer (some ⟨g, 7, none⟩)]), (15, .int .i64 (2))] w0 (feet [row v 5 1 m (bytesV bs)]) [row q 5 1 ((m + 1 + (upRest r 2).length)) (bytesV (bs ++ upMask r 2 :: upRest r 2))] a w) ?_ ?_
  ·
   refine wp_seq_k fun K29 hK30 => ?_
   refine wp_region_lit ?_
   refine st_lss hs rfl rfl rfl ?_; clear hs w a; intro a w hs
   rw [show (decide ((1 : Int) < 6)) = true from by decide] at hs
   refine wpList_nil ?_
   refine then_n (hK30 _ _ ?_)
   refine wp_seq_k fun K31 hK32 => ?_
   refine wp_cond_true (hs.ev rfl) ?_
   refine wp_skip ?_
   refine then_n (hK32 _ _ ?_)
   refine wp_seq_k fun K33 hK34 => ?_
   refine wp_block ?_
   refine wp_seq_k fun K35 hK36 => ?_
   refine wp_region_lit ?_
   refine st_run 4 [(7, .pointer (some ⟨g, 3, none⟩)), (6, .int .i64 (1)), (18, .pointer (some ⟨g, 3, none⟩)), (17, .int .i64 (1))] hs .n (by kernel_rfl) (by kernel_rfl) (by kernel_rfl) ?_; clear hs a; intro a hs
   refine wpList_nil ?_
   refine then_n (hK36 _ _ ?_)
   refine wp_seq_k fun K37 hK38 => ?_
   refine wp_region_lit ?_
   refine st_run 4 [(22, .bool (!((r.p1 : Int) == 0))), (21, .int .i64 (r.p1)), (20, .pointer (some ⟨g, 3, none⟩)), (19, .pointer (some ⟨g, 3, none⟩))] hs (.c (hs.mem.keep hg (row_blk hr hg (by decide))) .n) (by kernel_rfl) (by kernel_rfl) (by kernel_rfl) ?_; clear hs a; intro a hs
   refine wpList_nil ?_
   refine then_n (hK38 _ _ ?_)
   refine wp_if hs rfl (fun hc39 => ?_) (fun hc39 => ?_)
   ·
    replace hc39 := not_t hc39
    replace hc39 := ne_of_beq_f hc39
    have hn_ : r.num 1 ≠ 0 := by show r.p1 ≠ 0; assumption
    refine wp_seq_k fun K40 hK41 => ?_
    replace hs := hs.sub (F' := [(22, .bool (!((r.p1 : Int) == 0))), (21, .int .i64 (r.p1)), (20, .pointer (some ⟨g, 3, none⟩)), (19, .pointer (some ⟨g, 3, none⟩)), (7, .pointer (some ⟨g, 3, none⟩)), (6, .int .i64 (1)), (18, .pointer (some ⟨g, 3, none⟩)), (17, .int .i64 (1)), (16, .bool (true)), (0, q), (1, .pointer (some ⟨g, 0, none⟩)), (5, .int .i64 ((m : Int))), (14, .agg #[.pointer (some ⟨g, 2, none⟩), .pointer (some ⟨g, 3, none⟩), .pointer (some ⟨g, 4, none⟩), .pointer (some ⟨g, 5, none⟩), .pointer (some ⟨g, 6, none⟩), .pointer (some ⟨g, 7, none⟩)]), (15, .int .i64 (1))]) (.c rfl (.c rfl (.c rfl (.c rfl (.c rfl (.c rfl (.c rfl (.c rfl (.c rfl (.c rfl (.c rfl (.c rfl (.c rfl (.c rfl .n))))))))))))))
    refine wp_drawG (M0 := []) (Ds := [Pv 0 q, Pv 1 (.int .i64 ((m : Int))), Pv 2 (.pointer (some (adr q m))), Pv 3 (.int .u8 ((((upMask r 1).toNat : Nat) : Int))), Pv 4 (.int .i64 (1)), Pv 5 (.int .u8 (((((1#8) <<< 1).toNat : Nat) : Int))), Pv 6 (.int .u8 (((((upMask r 1) ||| ((1#8) <<< 1)).toNat : Nat) : Int))), Pv 7 (.pointer (some (adr q m))), ⟨[row q 5 1 ((m + 1 + (upRest r 1).length)) (bytesV (bs ++ upMask r 1 :: upRest r 1))], [], [], fun vs42 => True, fun vs42 => [row q 5 1 ((m + 1 + (upRest r 1).length)) (bytesV ((bs ++ upMask r 1 :: upRest r 1).set m ((upMask r 1) ||| ((1#8) <<< 1))))], none⟩]) (by kernel_rfl) hs rfl (.c .z .n) (by kernel_rfl) (by kernel_rfl) (by kernel_rfl) ?_ ?_
    ·
     refine (.c ?_ (.c ?_ (.c ?_ (.c ?_ (.c ?_ (.c ?_ (.c ?_ (.c ?_ (.c ?_ .n)))))))))
     · exact trip_pv (m := 9) .n (fun hm0 hm hx => .n) (by kernel_rfl) (by kernel_rfl) rfl
     · exact trip_pv (m := 9) .n (fun hm0 hm hx => .n) (by kernel_rfl) (by kernel_rfl) rfl
     ·
      intro a_ w_ R_ rest_ vs42 hm hs ht hx
      have hm0 := hm.mid
      replace hs := hs.lrn (ht 0 (twB_spec 9 _ (by kernel_rfl))) rfl rfl
      replace hs := hs.lrn (ht 1 (twB_spec 9 _ (by kernel_rfl))) rfl rfl
      have hs0 := hs.bare
      refine st_ia1 (j := m) hs rfl rfl (rd_row (hm.own (List.mem_append.2 (.inr ((hx 8 (twB_spec 9 _ (by kernel_rfl))).1 _ (List.Mem.head _)))))) rfl (by omega) Tryz.underlying37 Tryz.sizeOf5 rfl ?_; clear hs; intro a w hs
      exact wpList_nil ⟨rfl, _, _, hs0, (.c (.c .r)), hs, rfl⟩
     ·
      intro a_ w_ R_ rest_ vs42 hm hs ht hx
      have hm0 := hm.mid
      replace hs := hs.lrn (ht 2 (twB_spec 9 _ (by kernel_rfl))) rfl rfl
      have hs0 := hs.bare
      refine st_ld hs rfl (rd_row (hm.own (List.mem_append.2 (.inr ((hx 8 (twB_spec 9 _ (by kernel_rfl))).1 _ (List.Mem.head _)))))) (bytesV_getD (bs ++ upMask r 1 :: upRest r 1) (by first | omega | (simp; omega))) Tryz.isAgg5 rfl ?_; clear hs; intro a w hs
      rw [getD_mid hml] at hs
      exact wpList_nil ⟨rfl, _, _, hs0, (.c .r), hs, rfl⟩
     · exact trip_pv (m := 9) .n (fun hm0 hm hx => .n) (by kernel_rfl) (by kernel_rfl) rfl
     ·
      intro a_ w_ R_ rest_ vs42 hm hs ht hx
      have hm0 := hm.mid
      replace hs := hs.lrn (ht 4 (twB_spec 9 _ (by kernel_rfl))) rfl rfl
      have hs0 := hs.bare
      refine st_shl_u8 (X := 1#8) (m := 1) hs rfl (by decide) rfl (by decide) rfl ?_; clear hs; intro a w hs
      exact wpList_nil ⟨rfl, _, _, hs0, (.c .r), hs, rfl⟩
     ·
      intro a_ w_ R_ rest_ vs42 hm hs ht hx
      have hm0 := hm.mid
      replace hs := hs.lrn (ht 3 (twB_spec 9 _ (by kernel_rfl))) rfl rfl
      replace hs := hs.lrn (ht 5 (twB_spec 9 _ (by kernel_rfl))) rfl rfl
      have hs0 := hs.bare
      refine st_or_u8 (X := upMask r 1) (Y := (1#8) <<< 1) hs rfl rfl rfl rfl rfl ?_; clear hs; intro a w hs
      exact wpList_nil ⟨rfl, _, _, hs0, (.c (.c .r)), hs, rfl⟩
     ·
      intro a_ w_ R_ rest_ vs42 hm hs ht hx
      have hm0 := hm.mid
      replace hs := hs.lrn (ht 0 (twB_spec 9 _ (by kernel_rfl))) rfl rfl
      replace hs := hs.lrn (ht 1 (twB_spec 9 _ (by kernel_rfl))) rfl rfl
      have hs0 := hs.bare
      refine st_ia1 (j := m) hs rfl rfl (rd_row (hm.own (List.mem_append.2 (.inr ((hx 8 (twB_spec 9 _ (by kernel_rfl))).1 _ (List.Mem.head _)))))) rfl (by omega) Tryz.underlying37 Tryz.sizeOf5 rfl ?_; clear hs; intro a w hs
      exact wpList_nil ⟨rfl, _, _, hs0, (.c (.c .r)), hs, rfl⟩
     intro a_ w_ R_ rest_ vs42 hm hs ht hx
     replace hs : St _ _ _ (feet [row q 5 1 ((m + 1 + (upRest r 1).length)) (bytesV (bs ++ upMask r 1 :: upRest r 1))]) [row q 5 1 ((m + 1 + (upRest r 1).length)) (bytesV (bs ++ upMask r 1 :: upRest r 1))] _ _ := hs
     have hm0 := hm.mid
     replace hs := hs.lrn (ht 6 (twB_spec 9 _ (by kernel_rfl))) rfl rfl
     replace hs := hs.lrn (ht 7 (twB_spec 9 _ (by kernel_rfl))) rfl rfl
     have hs0 := hs.bare
     refine st_stR hs rfl rfl .z (by omega) rfl Tryz.sizeOf5 ?_; clear hs; intro a w hs
     replace hs := hs.rerow .z (m' := (m + 1 + (upRest r 1).length)) (xs' := bytesV ((bs ++ upMask r 1 :: upRest r 1).set m ((upMask r 1) ||| ((1#8) <<< 1)))) (rfl) ((bytesV_set _ _ _).symm)
     exact wpList_nil ⟨rfl, .tuple #[], _, hs0, (.c (.c .r)), hs, trivial⟩
    clear hs w a; intro a w vs42 hs hf
    replace hs : St _ _ _ _ [row q 5 1 ((m + 1 + (upRest r 1).length)) (bytesV ((bs ++ upMask r 1 :: upRest r 1).set m ((upMask r 1) ||| ((1#8) <<< 1))))] _ _ := hs
    clear hf
    refine then_n (hK41 _ _ ?_)
    refine wp_region_lit ?_
    refine st_mv hs rfl rfl ?_; clear hs w a; intro a w hs
    replace hs := hs.rerow .z (m' := (m + 1 + (upRest r 1).length)) (xs' := bytesV (bs ++ (upMask r 1 ||| (1#8 <<< 1)) :: upRest r 1)) (rfl) (by rw [set_mid hml])
    refine st_run 3 [(34, .int .i64 (r.p1)), (33, .pointer (some ⟨g, 3, none⟩)), (32, .pointer (some ⟨g, 3, none⟩))] hs (.c (hs.mem.keep hg (row_blk hr hg (by decide))) .n) (by kernel_rfl) (by kernel_rfl) (by kernel_rfl) ?_; clear hs a; intro a hs
    refine st_call hs (.c rfl (.c rfl .n)) Tryz.call162 (.c .z .n) (number_ok _ _ ((bs ++ (upMask r 1 ||| (1#8 <<< 1)) :: upRest r 1)) r.p1 _ (hs.mem.del .z) (by omega) (by omega)) rfl ?_; clear hs w a; rintro v43 _ a w rfl hs; simp only [List.cons_append, List.nil_append] at hs
    have hk44 := length_numB r.p1
    refine st_as hs rfl rfl ?_; clear hs w a; intro a w hs
    refine wpList_nil ?_
    refine in_n ?_
    refine then_n (hK34 _ _ ?_)
    refine wp_region_lit ?_
    refine st_run 2 [(15, .int .i64 (2)), (36, .int .i64 (2))] hs .n (by kernel_rfl) (by kernel_rfl) (by kernel_rfl) ?_; clear hs a; intro a hs
    refine wpList_nil ?_
    refine then_n ?_
    replace hs := hs.rerow .z (m' := (m + 1 + (upRest r 2).length)) (xs' := bytesV (bs ++ upMask r 2 :: upRest r 2)) (by first | (rw [upRest_z hz_]) | (rw [upRest_n hn_]; simp only [List.length_append, RecR.num]; omega)) (by first | (rw [upMask_z hz_, upRest_z hz_]) | (rw [upMask_n hn_, upRest_n hn_]; simp [bytesV_append, RecR.num]))
    exact ⟨v43, hs.sub (.c rfl (.c rfl (.c rfl (.c rfl (.c rfl .n)))))⟩
   replace hc39 := not_f hc39
   replace hc39 := eq_of_beq hc39
   have hz_ : r.num 1 = 0 := by show r.p1 = 0; assumption
   refine wp_skip ?_
   refine in_n ?_
   refine then_n (hK34 _ _ ?_)
   refine wp_region_lit ?_
   refine st_run 2 [(15, .int .i64 (2)), (36, .int .i64 (2))] hs .n (by kernel_rfl) (by kernel_rfl) (by kernel_rfl) ?_; clear hs a; intro a hs
   refine wpList_nil ?_
   refine then_n ?_
   replace hs := hs.rerow .z (m' := (m + 1 + (upRest r 2).length)) (xs' := bytesV (bs ++ upMask r 2 :: upRest r 2)) (by first | (rw [upRest_z hz_]) | (rw [upRest_n hn_]; simp only [List.length_append, RecR.num]; omega)) (by first | (rw [upMask_z hz_, upRest_z hz_]) | (rw [upMask_n hn_, upRest_n hn_]; simp [bytesV_append, RecR.num]))
   exact ⟨q, hs.sub (.c rfl (.c rfl (.c rfl (.c rfl (.c rfl .n)))))⟩
  clear hs w a; rintro a w ⟨q, hs⟩
  have hlu1 := length_upRest r 2
  refine then_n ?_
  refine rounds_in ?_
  refine Go.Sx.wp_cut (fun a w => ∃ q : Value, St 57 [(0, q), (1, .pointer (some ⟨g, 0, none⟩)), (5, .int .i64 ((m : Int))), (14, .agg #[.pointer (some ⟨g, 2, none⟩), .pointer (some ⟨g, 3, none⟩), .pointer (some ⟨g, 4, none⟩), .pointer (some ⟨g, 5, none⟩), .pointer (some ⟨g, 6, none⟩), .pointer (some ⟨g, 7, none⟩)]), (15, .int .i64 (3))] w0 (feet [row v 5 1 m (bytesV bs)]) [row q 5 1 ((m + 1 + (upRest r 3).length)) (bytesV (bs ++ upMask r 3 :: upRest r 3))] a w) ?_ ?_
  ·
   refine wp_seq_k fun K45 hK46 => ?_
   refine wp_region_lit ?_
   refine st_lss hs rfl rfl rfl ?_; clear hs w a; intro a w hs
   rw [show (decide ((2 : Int) < 6)) = true from by decide] at hs
   refine wpList_nil ?_
   refine then_n (hK46 _ _ ?_)
   refine wp_seq_k fun K47 hK48 => ?_
   refine wp_cond_true (hs.ev rfl) ?_
   refine wp_skip ?_
   refine then_n (hK48 _ _ ?_)
   refine wp_seq_k fun K49 hK50 => ?_
   refine wp_block ?_
   refine wp_seq_k fun K51 hK52 => ?_
   refine wp_region_lit ?_
   refine st_run 4 [(7, .pointer (some ⟨g, 4, none⟩)), (6, .int .i64 (2)), (18, .pointer (some ⟨g, 4, none⟩)), (17, .int .i64 (2))] hs .n (by kernel_rfl) (by kernel_rfl) (by kernel_rfl) ?_; clear hs a; intro a hs
   refine wpList_nil ?_
   refine then_n (hK52 _ _ ?_)
   refine wp_seq_k fun K53 hK54 => ?_
   refine wp_region_lit ?_
   refine st_run 4 [(22, .bool (!((r.p2 : Int) == 0))), (21, .int .i64 (r.p2)), (20, .pointer (some ⟨g, 4, none⟩)), (19, .pointer (some ⟨g, 4, none⟩))] hs (.c (hs.mem.keep hg (row_blk hr hg (by decide))) .n) (by kernel_rfl) (by kernel_rfl) (by kernel_rfl) ?_; clear hs a; intro a hs
   refine wpList_nil ?_
   refine then_n (hK54 _ _ ?_)
   refine wp_if hs rfl (fun hc55 => ?_) (fun hc55 => ?_)
   ·
    replace hc55 := not_t hc55
    replace hc55 := ne_of_beq_f hc55
    have hn_ : r.num 2 ≠ 0 := by show r.p2 ≠ 0; assumption
    refine wp_seq_k fun K56 hK57 => ?_
    replace hs := hs.sub (F' := [(22, .bool (!((r.p2 : Int) == 0))), (21, .int .i64 (r.p2)), (20, .pointer (some ⟨g, 4, none⟩)), (19, .pointer (some ⟨g, 4, none⟩)), (7, .pointer (some ⟨g, 4, none⟩)), (6, .int .i64 (2)), (18, .pointer (some ⟨g, 4, none⟩)), (17, .int .i64 (2)), (16, .bool (true)), (0, q), (1, .pointer (some ⟨g, 0, none⟩)), (5, .int .i64 ((m : Int))), (14, .agg #[.pointer (some ⟨g, 2, none⟩), .pointer (some ⟨g, 3, none⟩), .pointer (some ⟨g, 4, none⟩), .pointer (some ⟨g, 5, none⟩), .pointer (some ⟨g, 6, none⟩), .pointer (some ⟨g, 7, none⟩)]), (15, .int .i64 (2))]) (.c rfl (.c rfl (.c rfl (.c rfl (.c rfl (.c rfl (.c rfl (.c rfl (.c rfl (.c rfl (.c rfl (.c rfl (.c rfl (.c rfl .n))))))))))))))
    refine wp_drawG (M0 := []) (Ds := [Pv 0 q, Pv 1 (.int .i64 ((m : Int))), Pv 2 (.pointer (some (adr q m))), Pv 3 (.int .u8 ((((upMask r 2).toNat : Nat) : Int))), Pv 4 (.int .i64 (2)), Pv 5 (.int .u8 (((((1#8) <<< 2).toNat : Nat) : Int))), Pv 6 (.int .u8 (((((upMask r 2) ||| ((1#8) <<< 2)).toNat : Nat) : Int))), Pv 7 (.pointer (some (adr q m))), ⟨[row q 5 1 ((m + 1 + (upRest r 2).length)) (bytesV (bs ++ upMask r 2 :: upRest r 2))], [], [], fun vs58 => True, fun vs58 => [row q 5 1 ((m + 1 + (upRest r 2).length)) (bytesV ((bs ++ upMask r 2 :: upRest r 2).set m ((upMask r 2) ||| ((1#8) <<< 2))))], none⟩]) (by kernel_rfl) hs rfl (.c .z .n) (by kernel_rfl) (by kernel_rfl) (by kernel_rfl) ?_ ?_
    ·
     refine (.c ?_ (.c ?_ (.c ?_ (.c ?_ (.c ?_ (.c ?_ (.c ?_ (.c ?_ (.c ?_ .n)))))))))
     · exact trip_pv (m := 9) .n (fun hm0 hm hx => .n) (by kernel_rfl) (by kernel_rfl) rfl
     · exact trip_pv (m := 9) .n (fun hm0 hm hx => .n) (by kernel_rfl) (by kernel_rfl) rfl
     ·
      intro a_ w_ R_ rest_ vs58 hm hs ht hx
      have hm0 := hm.mid
      replace hs := hs.lrn (ht 0 (twB_spec 9 _ (by kernel_rfl))) rfl rfl
      replace hs := hs.lrn (ht 1 (twB_spec 9 _ (by kernel_rfl))) rfl rfl
      have hs0 := hs.bare
      refine st_ia1 (j := m) hs rfl rfl (rd_row (hm.own (List.mem_append.2 (.inr ((hx 8 (twB_spec 9 _ (by kernel_rfl))).1 _ (List.Mem.head _)))))) rfl (by omega) Tryz.underlying37 Tryz.sizeOf5 rfl ?_; clear hs; intro a w hs
      exact wpList_nil ⟨rfl, _, _, hs0, (.c (.c .r)), hs, rfl⟩
     ·
      intro a_ w_ R_ rest_ vs58 hm hs ht hx
      have hm0 := hm.mid
      replace hs := hs.lrn (ht 2 (twB_spec 9 _ (by kernel_rfl))) rfl rfl
      have hs0 := hs.bare
      refine st_ld hs rfl (rd_row (hm.own (List.mem_append.2 (.inr ((hx 8 (twB_spec 9 _ (by kernel_rfl))).1 _ (List.Mem.head _)))))) (bytesV_getD (bs ++ upMask r 2 :: upRest r 2) (by first | omega | (simp; omega))) Tryz.isAgg5 rfl ?_; clear hs; intro a w hs
      rw [getD_mid hml] at hs
      exact wpList_nil ⟨rfl, _, _, hs0, (.c .r), hs, rfl⟩
     · exact trip_pv (m := 9) .n (fun hm0 hm hx => .n) (by kernel_rfl) (by kernel_rfl) rfl
     ·
      intro a_ w_ R_ rest_ vs58 hm hs ht hx
      have hm0 := hm.mid
      replace hs := hs.lrn (ht 4 (twB_spec 9 _ (by kernel_rfl))) rfl rfl
      have hs0 := hs.bare
      refine st_shl_u8 (X := 1#8) (m := 2) hs rfl (by decide) rfl (by decide) rfl ?_; clear hs; intro a w hs
      exact wpList_nil ⟨rfl, _, _, hs0, (.c .r), hs, rfl⟩
     ·
      intro a_ w_ R_ rest_ vs58 hm hs ht hx
      have hm0 := hm.mid
      replace hs := hs.lrn (ht 3 (twB_spec 9 _ (by kernel_rfl))) rfl rfl
      replace hs := hs.lrn (ht 5 (twB_spec 9 _ (by kernel_rfl))) rfl rfl
      have hs0 := hs.bare
      refine st_or_u8 (X := upMask r 2) (Y := (1#8) <<< 2) hs rfl rfl rfl rfl rfl ?_; clear hs; intro a w hs
      exact wpList_nil ⟨rfl, _, _, hs0, (.c (.c .r)), hs, rfl⟩
     ·
      intro a_ w_ R_ rest_ vs58 hm hs ht hx
      have hm0 := hm.mid
      replace hs := hs.lrn (ht 0 (twB_spec 9 _ (by kernel_rfl))) rfl rfl
      replace hs := hs.lrn (ht 1 (twB_spec 9 _ (by kernel_rfl))) rfl rfl
      have hs0 := hs.bare
      refine st_ia1 (j := m) hs rfl rfl (rd_row (hm.own (List.mem_append.2 (.inr ((hx 8 (twB_spec 9 _ (by kernel_rfl))).1 _ (List.Mem.head _)))))) rfl (by omega) Tryz.underlying37 Tryz.sizeOf5 rfl ?_; clear hs; intro a w hs
      exact wpList_nil ⟨rfl, _, _, hs0, (.c (.c .r)), hs, rfl⟩
     intro a_ w_ R_ rest_ vs58 hm hs ht hx
     replace hs : St _ _ _ (feet [row q 5 1 ((m + 1 + (upRest r 2).length)) (bytesV (bs ++ upMask r 2 :: upRest r 2))]) [row q 5 1 ((m + 1 + (upRest r 2).length)) (bytesV (bs ++ upMask r 2 :: upRest r 2))] _ _ := hs
     have hm0 := hm.mid
     replace hs := hs.lrn (ht 6 (twB_spec 9 _ (by kernel_rfl))) rfl rfl
     replace hs := hs.lrn (ht 7 (twB_spec 9 _ (by kernel_rfl))) rfl rfl
     have hs0 := hs.bare
     refine st_stR hs rfl rfl .z (by omega) rfl Tryz.sizeOf5 ?_; clear hs; intro a w hs
     replace hs := hs.rerow .z (m' := (m + 1 + (upRest r 2).length)) (xs' := bytesV ((bs ++ upMask r 2 :: upRest r 2).set m ((upMask r 2) ||| ((1#8) <<< 2)))) (rfl) ((bytesV_set _ _ _).symm)
     exact wpList_nil ⟨rfl, .tuple #[], _, hs0, (.c (.c .r)), hs, trivial⟩
    clear hs w a; intro a w vs58 hs hf
    replace hs : St _ _ _ _ [row q 5 1 ((m + 1 + (upRest r 2).length)) (bytesV ((bs ++ upMask r 2 :: upRest r 2).set m ((upMask r 2) ||| ((1#8) <<< 2))))] _ _ := hs
    clear hf
    refine then_n (hK57 _ _ ?_)
    refine wp_region_lit ?_
    refine st_mv hs rfl rfl ?_; clear hs w a; intro a w hs
    replace hs := hs.rerow .z (m' := (m + 1 + (upRest r 2).length)) (xs' := bytesV (bs ++ (upMask r 2 ||| (1#8 <<< 2)) :: upRest r 2)) (rfl) (by rw [set_mid hml])
    refine st_run 3 [(34, .int .i64 (r.p2)), (33, .pointer (some ⟨g, 4, none⟩)), (32, .pointer (some ⟨g, 4, none⟩))] hs (.c (hs.mem.keep hg (row_blk hr hg (by decide))) .n) (by kernel_rfl) (by kernel_rfl) (by kernel_rfl) ?_; clear hs a; intro a hs
    refine st_call hs (.c rfl (.c rfl .n)) Tryz.call162 (.c .z .n) (number_ok _ _ ((bs ++ (upMask r 2 ||| (1#8 <<< 2)) :: upRest r 2)) r.p2 _ (hs.mem.del .z) (by omega) (by omega)) rfl ?_; clear hs w a; rintro v59 _ a w rfl hs; simp only [List.cons_append, List.nil_append] at hs
    have hk60 := length_numB r.p2
    refine st_as hs rfl rfl ?_; clear hs w a; intro a w hs
    refine wpList_nil ?_
    refine in_n ?_
    refine then_n (hK50 _ _ ?_)
    refine wp_region_lit ?_
    refine st_run 2 [(15, .int .i64 (3)), (36, .int .i64 (3))] hs .n (by kernel_rfl) (by kernel_rfl) (by kernel_rfl) ?_; clear hs a; intro a hs
    refine wpList_nil ?_
    refine then_n ?_
    replace hs := hs.rerow .z (m' := (m + 1 + (upRest r 3).length)) (xs' := bytesV (bs ++ upMask r 3 :: upRest r 3)) (by first | (rw [upRest_z hz_]) | (rw [upRest_n hn_]; simp only [List.length_append, RecR.num]; omega)) (by first | (rw [upMask_z hz_, upRest_z hz_]) | (rw [upMask_n hn_, upRest_n hn_]; simp [bytesV_append, RecR.num]))
    exact ⟨v59, hs.sub (.c rfl (.c rfl (.c rfl (.c rfl (.c rfl .n)))))⟩
   replace hc55 := not_f hc55
   replace hc55 := eq_of_beq hc55
   have hz_ : r.num 2 = 0 := by show r.p2 = 0; assumption
   refine wp_skip ?_
   refine in_n ?_
   refine then_n (hK50 _ _ ?_)
   refine wp_region_lit ?_
   refine st_run 2 [(15, .int .i64 (3)), (36, .int .i64 (3))] hs .n (by kernel_rfl) (by kernel_rfl) (by kernel_rfl) ?_; clear hs a; intro a hs
   refine wpList_nil ?_
   refine then_n ?_
   replace hs := hs.rerow .z (m' := (m + 1 + (upRest r 3).length)) (xs' := bytesV (bs ++ upMask r 3 :: upRest r 3)) (by first | (rw [upRest_z hz_]) | (rw [upRest_n hn_]; simp only [List.length_append, RecR.num]; omega)) (by first | (rw [upMask_z hz_, upRest_z hz_]) | (rw [upMask_n hn_, upRest_n hn_]; simp [bytesV_append, RecR.num]))
   exact ⟨q, hs.sub (.c rfl (.c rfl (.c rfl (.c rfl (.c rfl .n)))))⟩
  clear hs w a; rintro a w ⟨q, hs⟩
  have hlu2 := length_upRest r 3
  refine then_n ?_
  refine rounds_in ?_
  refine Go.Sx.wp_cut (fun a w => ∃ q : Value, St 57 [(0, q), (1, .pointer (some ⟨g, 0, none⟩)), (5, .int .i64 ((m : Int))), (14, .agg #[.pointer (some ⟨g, 2, none⟩), .pointer (some ⟨g, 3, none⟩), .pointer (some ⟨g, 4, none⟩), .pointer (some ⟨g, 5, none⟩), .pointer (some ⟨g, 6, none⟩), .pointer (some ⟨g, 7, none⟩)]), (15, .int .i64 (4))] w0 (feet [row v 5 1 m (bytesV bs)]) [row q 5 1 ((m + 1 + (upRest r 4).length)) (bytesV (bs ++ upMask r 4 :: upRest r 4))] a w) ?_ ?_
  ·
   refine wp_seq_k fun K61 hK62 => ?_
   refine wp_region_lit ?_
   refine st_lss hs rfl rfl rfl ?_; clear hs w a; intro a w hs
   rw [show (decide ((3 : Int) < 6)) = true from by decide] at hs
   refine wpList_nil ?_
   refine then_n (hK62 _ _ ?_)
   refine wp_seq_k fun K63 hK64 => ?_
   refine wp_cond_true (hs.ev rfl) ?_
   refine wp_skip ?_
   refine then_n (hK64 _ _ ?_)
   refine wp_seq_k fun K65 hK66 => ?_
   refine wp_block ?_
   refine wp_seq_k fun K67 hK68 => ?_
   refine wp_region_lit ?_
   refine st_run 4 [(7, .pointer (some ⟨g, 5, none⟩)), (6, .int .i64 (3)), (18, .pointer (some ⟨g, 5, none⟩)), (17, .int .i64 (3))] hs .n (by kernel_rfl) (by kernel_rfl) (by kernel_rfl) ?_; clear hs a; intro a hs
   refine wpList_nil ?_
   refine then_n (hK68 _ _ ?_)
   refine wp_seq_k fun K69 hK70 => ?_
   refine wp_region_lit ?_
   refine st_run 4 [(22, .bool (!((r.v0 : Int) == 0))), (21, .int .i64 (r.v0)), (20, .pointer (some ⟨g, 5, none⟩)), (19, .pointer (some ⟨g, 5, none⟩))] hs (.c (hs.mem.keep hg (row_blk hr hg (by decide))) .n) (by kernel_rfl) (by kernel_rfl) (by kernel_rfl) ?_; clear hs a; intro a hs
   refine wpList_nil ?_
   refine then_n (hK70 _ _ ?_)
   refine wp_if hs rfl (fun hc71 => ?_) (fun hc71 => ?_)
   ·
    replace hc71 := not_t hc71
    replace hc71 := ne_of_beq_f hc71
    have hn_ : r.num 3 ≠ 0 := by show r.v0 ≠ 0; assumption
    refine wp_seq_k fun K72 hK73 => ?_
    replace hs := hs.sub (F' := [(22, .bool (!((r.v0 : Int) == 0))), (21, .int .i64 (r.v0)), (20, .pointer (some ⟨g, 5, none⟩)), (19, .pointer (some ⟨g, 5, none⟩)), (7, .pointer (some ⟨g, 5, none⟩)), (6, .int .i64 (3)), (18, .pointer (some ⟨g, 5, none⟩)), (17, .int .i64 (3)), (16, .bool (true)), (0, q), (1, .pointer (some ⟨g, 0, none⟩)), (5, .int .i64 ((m : Int))), (14, .agg #[.pointer (some ⟨g, 2, none⟩), .pointer (some ⟨g, 3, none⟩), .pointer (some ⟨g, 4, none⟩), .pointer (some ⟨g, 5, none⟩), .pointer (some ⟨g, 6, none⟩), .pointer (some ⟨g, 7, none⟩)]), (15, .int .i64 (3))]) (.c rfl (.c rfl (.c rfl (.c rfl (.c rfl (.c rfl (.c rfl (.c rfl (.c rfl (.c rfl (.c rfl (.c rfl (.c rfl (.c rfl .n))))))))))))))
    refine wp_drawG (M0 := []) (Ds := [Pv 0 q, Pv 1 (.int .i64 ((m : Int))), Pv 2 (.pointer (some (adr q m))), Pv 3 (.int .u8 ((((upMask r 3).toNat : Nat) : Int))), Pv 4 (.int .i64 (3)), Pv 5 (.int .u8 (((((1#8) <<< 3).toNat : Nat) : Int))), Pv 6 (.int .u8 (((((upMask r 3) ||| ((1#8) <<< 3)).toNat : Nat) : Int))), Pv 7 (.pointer (some (adr q m))), ⟨[row q 5 1 ((m + 1 + (upRest r 3).length)) (bytesV (bs ++ upMask r 3 :: upRest r 3))], [], [], fun vs74 => True, fun vs74 => [row q 5 1 ((m + 1 + (upRest r 3).length)) (bytesV ((bs ++ upMask r 3 :: upRest r 3).set m ((upMask r 3) ||| ((1#8) <<< 3))))], none⟩]) (by kernel_rfl) hs rfl (.c .z .n) (by kernel_rfl) (by kernel_rfl) (by kernel_rfl) ?_ ?_
    ·
     refine (.c ?_ (.c ?_ (.c ?_ (.c ?_ (.c ?_ (.c ?_ (.c ?_ (.c ?_ (.c ?_ .n)))))))))
     · exact trip_pv (m := 9) .n (fun hm0 hm hx => .n) (by kernel_rfl) (by kernel_rfl) rfl
     · exact trip_pv (m := 9) .n (fun hm0 hm hx => .n) (by kernel_rfl) (by kernel_rfl) rfl
     ·
      intro a_ w_ R_ rest_ vs74 hm hs ht hx
      have hm0 := hm.mid
      replace hs := hs.lrn (ht 0 (twB_spec 9 _ (by kernel_rfl))) rfl rfl
      replace hs := hs.lrn (ht 1 (twB_spec 9 _ (by kernel_rfl))) rfl rfl
      have hs0 := hs.bare
      refine st_ia1 (j := m) hs rfl rfl (rd_row (hm.own (List.mem_append.2 (.inr ((hx 8 (twB_spec 9 _ (by kernel_rfl))).1 _ (List.Mem.head _)))))) rfl (by omega) Tryz.underlying37 Tryz.sizeOf5 rfl ?_; clear hs; intro a w hs
      exact wpList_nil ⟨rfl, _, _, hs0, (.c (.c .r)), hs, rfl⟩
     ·
      intro a_ w_ R_ rest_ vs74 hm hs ht hx
      have hm0 := hm.mid
      replace hs := hs.lrn (ht 2 (twB_spec 9 _ (by kernel_rfl))) rfl rfl
      have hs0 := hs.bare
      refine st_ld hs rfl (rd_row (hm.own (List.mem_append.2 (.inr ((hx 8 (twB_spec 9 _ (by kernel_rfl))).1 _ (List.Mem.head _)))))) (bytesV_getD (bs ++ upMask r 3 :: upRest r 3) (by first | omega | (simp; omega))) Tryz.isAgg5 rfl ?_; clear hs; intro a w hs
      rw [getD_mid hml] at hs
      exact wpList_nil ⟨rfl, _, _, hs0, (.c .r), hs, rfl⟩
     · exact trip_pv (m := 9) .n (fun hm0 hm hx => .n) (by kernel_rfl) (by kernel_rfl) rfl
     ·
      intro a_ w_ R_ rest_ vs74 hm hs ht hx
      have hm0 := hm.mid
      replace hs := hs.lrn (ht 4 (twB_spec 9 _ (by kernel_rfl))) rfl rfl
      have hs0 := hs.bare
      refine st_shl_u8 (X := 1#8) (m := 3) hs rfl (by decide) rfl (by decide) rfl ?_; clear hs; intro a w hs
      exact wpList_nil ⟨rfl, _, _, hs0, (.c .r), hs, rfl⟩
     ·
      intro a_ w_ R_ rest_ vs74 hm hs ht hx
      have hm0 := hm.mid
      replace hs := hs.lrn (ht 3 (twB_spec 9 _ (by kernel_rfl))) rfl rfl
      replace hs := hs.lrn (ht 5 (twB_spec 9 _ (by kernel_rfl))) rfl rfl
      have hs0 := hs.bare
      refine st_or_u8 (X := upMask r 3) (Y := (1#8) <<< 3) hs rfl rfl rfl rfl rfl ?_; clear hs; intro a w hs
      exact wpList_nil ⟨rfl, _, _, hs0, (.c (.c .r)), hs, rfl⟩
     ·
      intro a_ w_ R_ rest_ vs74 hm hs ht hx
      have hm0 := hm.mid
      replace hs := hs.lrn (ht 0 (twB_spec 9 _ (by kernel_rfl))) rfl rfl
      replace hs := hs.lrn (ht 1 (twB_spec 9 _ (by kernel_rfl))) rfl rfl
      have hs0 := hs.bare
      refine st_ia1 (j := m) hs rfl rfl (rd_row (hm.own (List.mem_append.2 (.inr ((hx 8 (twB_spec 9 _ (by kernel_rfl))).1 _ (List.Mem.head _)))))) rfl (by omega) Tryz.underlying37 Tryz.sizeOf5 rfl ?_; clear hs; intro a w hs
      exact wpList_nil ⟨rfl, _, _, hs0, (.c (.c .r)), hs, rfl⟩
     intro a_ w_ R_ rest_ vs74 hm hs ht hx
     replace hs : St _ _ _ (feet [row q 5 1 ((m + 1 + (upRest r 3).length)) (bytesV (bs ++ upMask r 3 :: upRest r 3))]) [row q 5 1 ((m + 1 + (upRest r 3).length)) (bytesV (bs ++ upMask r 3 :: upRest r 3))] _ _ := hs
     have hm0 := hm.mid
     replace hs := hs.lrn (ht 6 (twB_spec 9 _ (by kernel_rfl))) rfl rfl
     replace hs := hs.lrn (ht 7 (twB_spec 9 _ (by kernel_rfl))) rfl rfl
     have hs0 := hs.bare
     refine st_stR hs rfl rfl .z (by omega) rfl Tryz.sizeOf5 ?_; clear hs; intro a w hs
     replace hs := hs.rerow .z (m' := (m + 1 + (upRest r 3).length)) (xs' := bytesV ((bs ++ upMask r 3 :: upRest r 3).set m ((upMask r 3) ||| ((1#8) <<< 3)))) (rfl) ((bytesV_set _ _ _).symm)
     exact wpList_nil ⟨rfl, .tuple #[], _, hs0, (.c (.c .r)), hs, trivial⟩
    clear hs w a; intro a w vs74 hs hf
    replace hs : St _ _ _ _ [row q 5 1 ((m + 1 + (upRest r 3).length)) (bytesV ((bs ++ upMask r 3 :: upRest r 3).set m ((upMask r 3) ||| ((1#8) <<< 3))))] _ _ := hs
    clear hf
    refine then_n (hK73 _ _ ?_)
    refine wp_region_lit ?_
    refine st_mv hs rfl rfl ?_; clear hs w a; intro a w hs
    replace hs := hs.rerow .z (m' := (m + 1 + (upRest r 3).length)) (xs' := bytesV (bs ++ (upMask r 3 ||| (1#8 <<< 3)) :: upRest r 3)) (rfl) (by rw [set_mid hml])
    refine st_run 3 [(34, .int .i64 (r.v0)), (33, .pointer (some ⟨g, 5, none⟩)), (32, .pointer (some ⟨g, 5, none⟩))] hs (.c (hs.mem.keep hg (row_blk hr hg (by decide))) .n) (by kernel_rfl) (by kernel_rfl) (by kernel_rfl) ?_; clear hs a; intro a hs
    refine st_call hs (.c rfl (.c rfl .n)) Tryz.call162 (.c .z .n) (number_ok _ _ ((bs ++ (upMask r 3 ||| (1#8 <<< 3)) :: upRest r 3)) r.v0 _ (hs.mem.del .z) (by omega) (by omega)) rfl ?_; clear hs w a; rintro v75 _ a w rfl hs; simp only [List.cons_append, List.nil_append] at hs
    have hk76 := length_numB r.v0
    refine st_as hs rfl rfl ?_; clear hs w a; intro a w hs
    refine wpList_nil ?_
    refine in_n ?_
    refine then_n (hK66 _ _ ?_)
    refine wp_region_lit ?_
    refine st_run 2 [(15, .int .i64 (4)), (36, .int .i64 (4))] hs .n (by kernel_rfl) (by kernel_rfl) (by kernel_rfl) ?_; clear hs a; intro a hs
    refine wpList_nil ?_
    refine then_n ?_
    replace hs := hs.rerow .z (m' := (m + 1 + (upRest r 4).length)) (xs' := bytesV (bs ++ upMask r 4 :: upRest r 4)) (by first | (rw [upRest_z hz_]) | (rw [upRest_n hn_]; simp only [List.length_append, RecR.num]; omega)) (by first | (rw [upMask_z hz_, upRest_z hz_]) | (rw [upMask_n hn_, upRest_n hn_]; simp [bytesV_append, RecR.num]))
    exact ⟨v75, hs.sub (.c rfl (.c rfl (.c rfl (.c rfl (.c rfl .n)))))⟩
   replace hc71 := not_f hc71
   replace hc71 := eq_of_beq hc71
   have hz_ : r.num 3 = 0 := by show r.v0 = 0; assumption
   refine wp_skip ?_
   refine in_n ?_
   refine then_n (hK66 _ _ ?_)
   refine wp_region_lit ?_
   refine st_run 2 [(15, .int .i64 (4)), (36, .int .i64 (4))] hs .n (by kernel_rfl) (by kernel_rfl) (by kernel_rfl) ?_; clear hs a; intro a hs
   refine wpList_nil ?_
   refine then_n ?_
   replace hs := hs.rerow .z (m' := (m + 1 + (upRest r 4).length)) (xs' := bytesV (bs ++ upMask r 4 :: upRest r 4)) (by first | (rw [upRest_z hz_]) | (rw [upRest_n hn_]; simp only [List.length_append, RecR.num]; omega)) (by first | (rw [upMask_z hz_, upRest_z hz_]) | (rw [upMask_n hn_, upRest_n hn_]; simp [bytesV_append, RecR.num]))
   exact ⟨q, hs.sub (.c rfl (.c rfl (.c rfl (.c rfl (.c rfl .n)))))⟩
  clear hs w a; rintro a w ⟨q, hs⟩
  have hlu3 := length_upRest r 4
  refine then_n ?_
  refine rounds_in ?_
  refine Go.Sx.wp_cut (fun a w => ∃ q : Value, St 57 [(0, q), (1, .pointer (some ⟨g, 0, none⟩)), (5, .int .i64 ((m : Int))), (14, .agg #[.pointer (some ⟨g, 2, none⟩), .pointer (some ⟨g, 3, none⟩), .pointer (some ⟨g, 4, none⟩), .pointer (some ⟨g, 5, none⟩), .pointer (some ⟨g, 6, none⟩), .pointer (some ⟨g, 7, none⟩)]), (15, .int .i64 (5))] w0 (feet [row v 5 1 m (bytesV bs)]) [row q 5 1 ((m + 1 + (upRest r 5).length)) (bytesV (bs ++ upMask r 5 :: upRest r 5))] a w) ?_ ?_
  ·
   refine wp_seq_k fun K77 hK78 => ?_
   refine wp_region_lit ?_
   refine st_lss hs rfl rfl rfl ?_; clear hs w a; intro a w hs
   rw [show (decide ((4 : Int) < 6)) = true from by decide] at hs
   refine wpList_nil ?_
   refine then_n (hK78 _ _ ?_)
   refine wp_seq_k fun K79 hK80 => ?_
   refine wp_cond_true (hs.ev rfl) ?_
   refine wp_skip ?_
   refine then_n (hK80 _ _ ?_)
   refine wp_seq_k fun K81 hK82 => ?_
   refine wp_block ?_
   refine wp_seq_k fun K83 hK84 => ?_
   refine wp_region_lit ?_
   refine st_run 4 [(7, .pointer (some ⟨g, 6, none⟩)), (6, .int .i64 (4)), (18, .pointer (some ⟨g, 6, none⟩)), (17, .int .i64 (4))] hs .n (by kernel_rfl) (by kernel_rfl) (by kernel_rfl) ?_; clear hs a; intro a hs
   refine wpList_nil ?_
   refine then_n (hK84 _ _ ?_)
   refine wp_seq_k fun K85 hK86 => ?_
   refine wp_region_lit ?_
   refine st_run 4 [(22, .bool (!((r.v1 : Int) == 0))), (21, .int .i64 (r.v1)), (20, .pointer (some ⟨g, 6, none⟩)), (19, .pointer (some ⟨g, 6, none⟩))] hs (.c (hs.mem.keep hg (row_blk hr hg (by decide))) .n) (by kernel_rfl) (by kernel_rfl) (by kernel_rfl) ?_; clear hs a; intro a hs
   refine wpList_nil ?_
   refine then_n (hK86 _ _ ?_)
   refine wp_if hs rfl (fun hc87 => ?_) (fun hc87 => ?_)
   ·
    replace hc87 := not_t hc87
    replace hc87 := ne_of_beq_f hc87
    have hn_ : r.num 4 ≠ 0 := by show r.v1 ≠ 0; assumption
    refine wp_seq_k fun K88 hK89 => ?_
    replace hs := hs.sub (F' := [(22, .bool (!((r.v1 : Int) == 0))), (21, .int .i64 (r.v1)), (20, .pointer (some ⟨g, 6, none⟩)), (19, .pointer (some ⟨g, 6, none⟩)), (7, .pointer (some ⟨g, 6, none⟩)), (6, .int .i64 (4)), (18, .pointer (some ⟨g, 6, none⟩)), (17, .int .i64 (4)), (16, .bool (true)), (0, q), (1, .pointer (some ⟨g, 0, none⟩)), (5, .int .i64 ((m : Int))), (14, .agg #[.pointer (some ⟨g, 2, none⟩), .pointer (some ⟨g, 3, none⟩), .pointer (some ⟨g, 4, none⟩), .pointer (some ⟨g, 5, none⟩), .pointer (some ⟨g, 6, none⟩), .pointer (some ⟨g, 7, none⟩)]), (15, .int .i64 (4))]) (.c rfl (.c rfl (.c rfl (.c rfl (.c rfl (.c rfl (.c rfl (.c rfl (.c rfl (.c rfl (.c rfl (.c rfl (.c rfl (.c rfl .n))))))))))))))
    refine wp_drawG (M0 := []) (Ds := [Pv 0 q, Pv 1 (.int .i64 ((m : Int))), Pv 2 (.pointer (some (adr q m))), Pv 3 (.int .u8 ((((upMask r 4).toNat : Nat) : Int))), Pv 4 (.int .i64 (4)), Pv 5 (.int .u8 (((((1#8) <<< 4).toNat : Nat) : Int))), Pv 6 (.int .u8 (((((upMask r 4) ||| ((1#8) <<< 4)).toNat : Nat) : Int))), Pv 7 (.pointer (some (adr q m))), ⟨[row q 5 1 ((m + 1 + (upRest r 4).length)) (bytesV (bs ++ upMask r 4 :: upRest r 4))], [], [], fun vs90 => True, fun vs90 => [row q 5 1 ((m + 1 + (upRest r 4).length)) (bytesV ((bs ++ upMask r 4 :: upRest r 4).set m ((upMask r 4) ||| ((1#8) <<< 4))))], none⟩]) (by kernel_rfl) hs rfl (.c .z .n) (by kernel_rfl) (by kernel_rfl) (by kernel_rfl) ?_ ?_
    ·
     refine (.c ?_ (.c ?_ (.c ?_ (.c ?_ (.c ?_ (.c ?_ (.c ?_ (.c ?_ (.c ?_ .n)))))))))
     · exact trip_pv (m := 9) .n (fun hm0 hm hx => .n) (by kernel_rfl) (by kernel_rfl) rfl
     · exact trip_pv (m := 9) .n (fun hm0 hm hx => .n) (by kernel_rfl) (by kernel_rfl) rfl
     ·
      intro a_ w_ R_ rest_ vs90 hm hs ht hx
      have hm0 := hm.mid
      replace hs := hs.lrn (ht 0 (twB_spec 9 _ (by kernel_rfl))) rfl rfl
      replace hs := hs.lrn (ht 1 (twB_spec 9 _ (by kernel_rfl))) rfl rfl
      have hs0 := hs.bare
      refine st_ia1 (j := m) hs rfl rfl (rd_row (hm.own (List.mem_append.2 (.inr ((hx 8 (twB_spec 9 _ (by kernel_rfl))).1 _ (List.Mem.head _)))))) rfl (by omega) Tryz.underlying37 Tryz.sizeOf5 rfl ?_; clear hs; intro a w hs
      exact wpList_nil ⟨rfl, _, _, hs0, (.c (.c .r)), hs, rfl⟩
     ·
      intro a_ w_ R_ rest_ vs90 hm hs ht hx
      have hm0 := hm.mid
      replace hs := hs.lrn (ht 2 (twB_spec 9 _ (by kernel_rfl))) rfl rfl
      have hs0 := hs.bare
      refine st_ld hs rfl (rd_row (hm.own (List.mem_append.2 (.inr ((hx 8 (twB_spec 9 _ (by kernel_rfl))).1 _ (List.Mem.head _)))))) (bytesV_getD (bs ++ upMask r 4 :: upRest r 4) (by first | omega | (simp; omega))) Tryz.isAgg5 rfl ?_; clear hs; intro a w hs
      rw [getD_mid hml] at hs
      exact wpList_nil ⟨rfl, _, _, hs0, (.c .r), hs, rfl⟩
     · exact trip_pv (m := 9) .n (fun hm0 hm hx => .n) (by kernel_rfl) (by kernel_rfl) rfl
     ·
      intro a_ w_ R_ rest_ vs90 hm hs ht hx
      have hm0 := hm.mid
      replace hs := hs.lrn (ht 4 (twB_spec 9 _ (by kernel_rfl))) rfl rfl
      have hs0 := hs.bare
      refine st_shl_u8 (X := 1#8) (m := 4) hs rfl (by decide) rfl (by decide) rfl ?_; clear hs; intro a w hs
      exact wpList_nil ⟨rfl, _, _, hs0, (.c .r), hs, rfl⟩
     ·
      intro a_ w_ R_ rest_ vs90 hm hs ht hx
      have hm0 := hm.mid
      replace hs := hs.lrn (ht 3 (twB_spec 9 _ (by kernel_rfl))) rfl rfl
      replace hs := hs.lrn (ht 5 (twB_spec 9 _ (by kernel_rfl))) rfl rfl
      have hs0 := hs.bare
      refine st_or_u8 (X := upMask r 4) (Y := (1#8) <<< 4) hs rfl rfl rfl rfl rfl ?_; clear hs; intro a w hs
      exact wpList_nil ⟨rfl, _, _, hs0, (.c (.c .r)), hs, rfl⟩
     ·
      intro a_ w_ R_ rest_ vs90 hm hs ht hx
      have hm0 := hm.mid
      replace hs := hs.lrn (ht 0 (twB_spec 9 _ (by kernel_rfl))) rfl rfl
      replace hs := hs.lrn (ht 1 (twB_spec 9 _ (by kernel_rfl))) rfl rfl
      have hs0 := hs.bare
      refine st_ia1 (j := m) hs rfl rfl (rd_row (hm.own (List.mem_append.2 (.inr ((hx 8 (twB_spec 9 _ (by kernel_rfl))).1 _ (List.Mem.head _)))))) rfl (by omega) Tryz.underlying37 Tryz.sizeOf5 rfl ?_; clear hs; intro a w hs
      exact wpList_nil ⟨rfl, _, _, hs0, (.c (.c .r)), hs, rfl⟩
     intro a_ w_ R_ rest_ vs90 hm hs ht hx
     replace hs : St _ _ _ (feet [row q 5 1 ((m + 1 + (upRest r 4).length)) (bytesV (bs ++ upMask r 4 :: upRest r 4))]) [row q 5 1 ((m + 1 + (upRest r 4).length)) (bytesV (bs ++ upMask r 4 :: upRest r 4))] _ _ := hs
     have hm0 := hm.mid
     replace hs := hs.lrn (ht 6 (twB_spec 9 _ (by kernel_rfl))) rfl rfl
     replace hs := hs.lrn (ht 7 (twB_spec 9 _ (by kernel_rfl))) rfl rfl
     have hs0 := hs.bare
     refine st_stR hs rfl rfl .z (by omega) rfl Tryz.sizeOf5 ?_; clear hs; intro a w hs
     replace hs := hs.rerow .z (m' := (m + 1 + (upRest r 4).length)) (xs' := bytesV ((bs ++ upMask r 4 :: upRest r 4).set m ((upMask r 4) ||| ((1#8) <<< 4)))) (rfl) ((bytesV_set _ _ _).symm)
     exact wpList_nil ⟨rfl, .tuple #[], _, hs0, (.c (.c .r)), hs, trivial⟩
    clear hs w a; intro a w vs90 hs hf
    replace hs : St _ _ _ _ [row q 5 1 ((m + 1 + (upRest r 4).length)) (bytesV ((bs ++ upMask r 4 :: upRest r 4).set m ((upMask r 4) ||| ((1#8) <<< 4))))] _ _ := hs
    clear hf
    refine then_n (hK89 _ _ ?_)
    refine wp_region_lit ?_
    refine st_mv hs rfl rfl ?_; clear hs w a; intro a w hs
    replace hs := hs.rerow .z (m' := (m + 1 + (upRest r 4).length)) (xs' := bytesV (bs ++ (upMask r 4 ||| (1#8 <<< 4)) :: upRest r 4)) (rfl) (by rw [set_mid hml])
    refine st_run 3 [(34, .int .i64 (r.v1)), (33, .pointer (some ⟨g, 6, none⟩)), (32, .pointer (some ⟨g, 6, none⟩))] hs (.c (hs.mem.keep hg (row_blk hr hg (by decide))) .n) (by kernel_rfl) (by kernel_rfl) (by kernel_rfl) ?_; clear hs a; intro a hs
    refine st_call hs (.c rfl (.c rfl .n)) Tryz.call162 (.c .z .n) (number_ok _ _ ((bs ++ (upMask r 4 ||| (1#8 <<< 4)) :: upRest r 4)) r.v1 _ (hs.mem.del .z) (by omega) (by omega)) rfl ?_; clear hs w a; rintro v91 _ a w rfl hs; simp only [List.cons_append, List.nil_append] at hs
    have hk92 := length_numB r.v1
    refine st_as hs rfl rfl ?_; clear hs w a; intro a w hs
    refine wpList_nil ?_
    refine in_n ?_
    refine then_n (hK82 _ _ ?_)
    refine wp_region_lit ?_
    refine st_run 2 [(15, .int .i64 (5)), (36, .int .i64 (5))] hs .n (by kernel_rfl) (by kernel_rfl) (by kernel_rfl) ?_; clear hs a; intro a hs
    refine wpList_nil ?_
    refine then_n ?_
    replace hs := hs.rerow .z (m' := (m + 1 + (upRest r 5).length)) (xs' := bytesV (bs ++ upMask r 5 :: upRest r 5)) (by first | (rw [upRest_z hz_]) | (rw [upRest_n hn_]; simp only [List.length_append, RecR.num]; omega)) (by first | (rw [upMask_z hz_, upRest_z hz_]) | (rw [upMask_n hn_, upRest_n hn_]; simp [bytesV_append, RecR.num]))
    exact ⟨v91, hs.sub (.c rfl (.c rfl (.c rfl (.c rfl (.c rfl .n)))))⟩
   replace hc87 := not_f hc87
   replace hc87 := eq_of_beq hc87
   have hz_ : r.num 4 = 0 := by show r.v1 = 0; assumption
   refine wp_skip ?_
   refine in_n ?_
   refine then_n (hK82 _ _ ?_)
   refine wp_region_lit ?_
   refine st_run 2 [(15, .int .i64 (5)), (36, .int .i64 (5))] hs .n (by kernel_rfl) (by kernel_rfl) (by kernel_rfl) ?_; clear hs a; intro a hs
   refine wpList_nil ?_
   refine then_n ?_
   replace hs := hs.rerow .z (m' := (m + 1 + (upRest r 5).length)) (xs' := bytesV (bs ++ upMask r 5 :: upRest r 5)) (by first | (rw [upRest_z hz_]) | (rw [upRest_n hn_]; simp only [List.length_append, RecR.num]; omega)) (by first | (rw [upMask_z hz_, upRest_z hz_]) | (rw [upMask_n hn_, upRest_n hn_]; simp [bytesV_append, RecR.num]))
   exact ⟨q, hs.sub (.c rfl (.c rfl (.c rfl (.c rfl (.c rfl .n)))))⟩
  clear hs w a; rintro a w ⟨q, hs⟩
  have hlu4 := length_upRest r 5
  refine then_n ?_
  refine rounds_in ?_
  refine Go.Sx.wp_cut (fun a w => ∃ q : Value, St 57 [(0, q), (1, .pointer (some ⟨g, 0, none⟩)), (5, .int .i64 ((m : Int))), (14, .agg #[.pointer (some ⟨g, 2, none⟩), .pointer (some ⟨g, 3, none⟩), .pointer (some ⟨g, 4, none⟩), .pointer (some ⟨g, 5, none⟩), .pointer (some ⟨g, 6, none⟩), .pointer (some ⟨g, 7, none⟩)]), (15, .int .i64 (6))] w0 (feet [row v 5 1 m (bytesV bs)]) [row q 5 1 ((m + 1 + (upRest r 6).length)) (bytesV (bs ++ upMask r 6 :: upRest r 6))] a w) ?_ ?_
  ·
   refine wp_seq_k fun K93 hK94 => ?_
   refine wp_region_lit ?_
   refine st_lss hs rfl rfl rfl ?_; clear hs w a; intro a w hs
   rw [show (decide ((5 : Int) < 6)) = true from by decide] at hs
   refine wpList_nil ?_
   refine then_n (hK94 _ _ ?_)
   refine wp_seq_k fun K95 hK96 => ?_
   refine wp_cond_true (hs.ev rfl) ?_
   refine wp_skip ?_
   refine then_n (hK96 _ _ ?_)
   refine wp_seq_k fun K97 hK98 => ?_
   refine wp_block ?_
   refine wp_seq_k fun K99 hK100 => ?_
   refine wp_region_lit ?_
   refine st_run 4 [(7, .pointer (some ⟨g, 7, none⟩)), (6, .int .i64 (5)), (18, .pointer (some ⟨g, 7, none⟩)), (17, .int .i64 (5))] hs .n (by kernel_rfl) (by kernel_rfl) (by kernel_rfl) ?_; clear hs a; intro a hs
   refine wpList_nil ?_
   refine then_n (hK100 _ _ ?_)
   refine wp_seq_k fun K101 hK102 => ?_
   refine wp_region_lit ?_
   refine st_run 4 [(22, .bool (!((r.v2 : Int) == 0))), (21, .int .i64 (r.v2)), (20, .pointer (some ⟨g, 7, none⟩)), (19, .pointer (some ⟨g, 7, none⟩))] hs (.c (hs.mem.keep hg (row_blk hr hg (by decide))) .n) (by kernel_rfl) (by kernel_rfl) (by kernel_rfl) ?_; clear hs a; intro a hs
   refine wpList_nil ?_
   refine then_n (hK102 _ _ ?_)
   refine wp_if hs rfl (fun hc103 => ?_) (fun hc103 => ?_)
   ·
    replace hc103 := not_t hc103
    replace hc103 := ne_of_beq_f hc103
    have hn_ : r.num 5 ≠ 0 := by show r.v2 ≠ 0; assumption
    refine wp_seq_k fun K104 hK105 => ?_
    replace hs := hs.sub (F' := [(22, .bool (!((r.v2 : Int) == 0))), (21, .int .i64 (r.v2)), (20, .pointer (some ⟨g, 7, none⟩)), (19, .pointer (some ⟨g, 7, none⟩)), (7, .pointer (some ⟨g, 7, none⟩)), (6, .int .i64 (5)), (18, .pointer (some ⟨g, 7, none⟩)), (17, .int .i64 (5)), (16, .bool (true)), (0, q), (1, .pointer (some ⟨g, 0, none⟩)), (5, .int .i64 ((m : Int))), (14, .agg #[.pointer (some ⟨g, 2, none⟩), .pointer (some ⟨g, 3, none⟩), .pointer (some ⟨g, 4, none⟩), .pointer (some ⟨g, 5, none⟩), .pointer (some ⟨g, 6, none⟩), .pointer (some ⟨g, 7, none⟩)]), (15, .int .i64 (5))]) (.c rfl (.c rfl (.c rfl (.c rfl (.c rfl (.c rfl (.c rfl (.c rfl (.c rfl (.c rfl (.c rfl (.c rfl (.c rfl (.c rfl .n))))))))))))))
    refine wp_drawG (M0 := []) (Ds := [Pv 0 q, Pv 1 (.int .i64 ((m : Int))), Pv 2 (.pointer (some (adr q m))), Pv 3 (.int .u8 ((((upMask r 5).toNat : Nat) : Int))), Pv 4 (.int .i64 (5)), Pv 5 (.int .u8 (((((1#8) <<< 5).toNat : Nat) : Int))), Pv 6 (.int .u8 (((((upMask r 5) ||| ((1#8) <<< 5)).toNat : Nat) : Int))), Pv 7 (.pointer (some (adr q m))), ⟨[row q 5 1 ((m + 1 + (upRest r 5).length)) (bytesV (bs ++ upMask r 5 :: upRest r 5))], [], [], fun vs106 => True, fun vs106 => [row q 5 1 ((m + 1 + (upRest r 5).length)) (bytesV ((bs ++ upMask r 5 :: upRest r 5).set m ((upMask r 5) ||| ((1#8) <<< 5))))], none⟩]) (by kernel_rfl) hs rfl (.c .z .n) (by kernel_rfl) (by kernel_rfl) (by kernel_rfl) ?_ ?_
    ·
     refine (.c ?_ (.c ?_ (.c ?_ (.c ?_ (.c ?_ (.c ?_ (.c ?_ (.c ?_ (.c ?_ .n)))))))))
     · exact trip_pv (m := 9) .n (fun hm0 hm hx => .n) (by kernel_rfl) (by kernel_rfl) rfl
     · exact trip_pv (m := 9) .n (fun hm0 hm hx => .n) (by kernel_rfl) (by kernel_rfl) rfl
     ·
      intro a_ w_ R_ rest_ vs106 hm hs ht hx
      have hm0 := hm.mid
      replace hs := hs.lrn (ht 0 (twB_spec 9 _ (by kernel_rfl))) rfl rfl
      replace hs := hs.lrn (ht 1 (twB_spec 9 _ (by kernel_rfl))) rfl rfl
      have hs0 := hs.bare
      refine st_ia1 (j := m) hs rfl rfl (rd_row (hm.own (List.mem_append.2 (.inr ((hx 8 (twB_spec 9 _ (by kernel_rfl))).1 _ (List.Mem.head _)))))) rfl (by omega) Tryz.underlying37 Tryz.sizeOf5 rfl ?_; clear hs; intro a w hs
      exact wpList_nil ⟨rfl, _, _, hs0, (.c (.c .r)), hs, rfl⟩
     ·
      intro a_ w_ R_ rest_ vs106 hm hs ht hx
      have hm0 := hm.mid
      replace hs := hs.lrn (ht 2 (twB_spec 9 _ (by kernel_rfl))) rfl rfl
      have hs0 := hs.bare
      refine st_ld hs rfl (rd_row (hm.own (List.mem_append.2 (.inr ((hx 8 (twB_spec 9 _ (by kernel_rfl))).1 _ (List.Mem.head _)))))) (bytesV_getD (bs ++ upMask r 5 :: upRest r 5) (by first | omega | (simp; omega))) Tryz.isAgg5 rfl ?_; clear hs; intro a w hs
      rw [getD_mid hml] at hs
      exact wpList_nil ⟨rfl, _, _, hs0, (.c .r), hs, rfl⟩
     · exact trip_pv (m := 9) .n (fun hm0 hm hx => .n) (by kernel_rfl) (by kernel_rfl) rfl
     ·
      intro a_ w_ R_ rest_ vs106 hm hs ht hx
      have hm0 := hm.mid
      replace hs := hs.lrn (ht 4 (twB_spec 9 _ (by kernel_rfl))) rfl rfl
      have hs0 := hs.bare
      refine st_shl_u8 (X := 1#8) (m := 5) hs rfl (by decide) rfl (by decide) rfl ?_; clear hs; intro a w hs
      exact wpList_nil ⟨rfl, _, _, hs0, (.c .r), hs, rfl⟩
     ·
      intro a_ w_ R_ rest_ vs106 hm hs ht hx
      have hm0 := hm.mid
      replace hs := hs.lrn (ht 3 (twB_spec 9 _ (by kernel_rfl))) rfl rfl
      replace hs := hs.lrn (ht 5 (twB_spec 9 _ (by kernel_rfl))) rfl rfl
      have hs0 := hs.bare
      refine st_or_u8 (X := upMask r 5) (Y := (1#8) <<< 5) hs rfl rfl rfl rfl rfl ?_; clear hs; intro a w hs
      exact wpList_nil ⟨rfl, _, _, hs0, (.c (.c .r)), hs, rfl⟩
     ·
      intro a_ w_ R_ rest_ vs106 hm hs ht hx
      have hm0 := hm.mid
      replace hs := hs.lrn (ht 0 (twB_spec 9 _ (by kernel_rfl))) rfl rfl
      replace hs := hs.lrn (ht 1 (twB_spec 9 _ (by kernel_rfl))) rfl rfl
      have hs0 := hs.bare
      refine st_ia1 (j := m) hs rfl rfl (rd_row (hm.own (List.mem_append.2 (.inr ((hx 8 (twB_spec 9 _ (by kernel_rfl))).1 _ (List.Mem.head _)))))) rfl (by omega) Tryz.underlying37 Tryz.sizeOf5 rfl ?_; clear hs; intro a w hs
      exact wpList_nil ⟨rfl, _, _, hs0, (.c (.c .r)), hs, rfl⟩
     intro a_ w_ R_ rest_ vs106 hm hs ht hx
     replace hs : St _ _ _ (feet [row q 5 1 ((m + 1 + (upRest r 5).length)) (bytesV (bs ++ upMask r 5 :: upRest r 5))]) [row q 5 1 ((m + 1 + (upRest r 5).length)) (bytesV (bs ++ upMask r 5 :: upRest r 5))] _ _ := hs
     have hm0 := hm.mid
     replace hs := hs.lrn (ht 6 (twB_spec 9 _ (by kernel_rfl))) rfl rfl
     replace hs := hs.lrn (ht 7 (twB_spec 9 _ (by kernel_rfl))) rfl rfl
     have hs0 := hs.bare
     refine st_stR hs rfl rfl .z (by omega) rfl Tryz.sizeOf5 ?_; clear hs; intro a w hs
     replace hs := hs.rerow .z (m' := (m + 1 + (upRest r 5).length)) (xs' := bytesV ((bs ++ upMask r 5 :: upRest r 5).set m ((upMask r 5) ||| ((1#8) <<< 5)))) (rfl) ((bytesV_set _ _ _).symm)
     exact wpList_nil ⟨rfl, .tuple #[], _, hs0, (.c (.c .r)), hs, trivial⟩
    clear hs w a; intro a w vs106 hs hf
    replace hs : St _ _ _ _ [row q 5 1 ((m + 1 + (upRest r 5).length)) (bytesV ((bs ++ upMask r 5 :: upRest r 5).set m ((upMask r 5) ||| ((1#8) <<< 5))))] _ _ := hs
    clear hf
    refine then_n (hK105 _ _ ?_)
    refine wp_region_lit ?_
    refine st_mv hs rfl rfl ?_; clear hs w a; intro a w hs
    replace hs := hs.rerow .z (m' := (m + 1 + (upRest r 5).length)) (xs' := bytesV (bs ++ (upMask r 5 ||| (1#8 <<< 5)) :: upRest r 5)) (rfl) (by rw [set_mid hml])
    refine st_run 3 [(34, .int .i64 (r.v2)), (33, .pointer (some ⟨g, 7, none⟩)), (32, .pointer (some ⟨g, 7, none⟩))] hs (.c (hs.mem.keep hg (row_blk hr hg (by decide))) .n) (by kernel_rfl) (by kernel_rfl) (by kernel_rfl) ?_; clear hs a; intro a hs
    refine st_call hs (.c rfl (.c rfl .n)) Tryz.call162 (.c .z .n) (number_ok _ _ ((bs ++ (upMask r 5 ||| (1#8 <<< 5)) :: upRest r 5)) r.v2 _ (hs.mem.del .z) (by omega) (by omega)) rfl ?_; clear hs w a; rintro v107 _ a w rfl hs; simp only [List.cons_append, List.nil_append] at hs
    have hk108 := length_numB r.v2
    refine st_as hs rfl rfl ?_; clear hs w a; intro a w hs
    refine wpList_nil ?_
    refine in_n ?_
    refine then_n (hK98 _ _ ?_)
    refine wp_region_lit ?_
    refine st_run 2 [(15, .int .i64 (6)), (36, .int .i64 (6))] hs .n (by kernel_rfl) (by kernel_rfl) (by kernel_rfl) ?_; clear hs a; intro a hs
    refine wpList_nil ?_
    refine then_n ?_
    replace hs := hs.rerow .z (m' := (m + 1 + (upRest r 6).length)) (xs' := bytesV (bs ++ upMask r 6 :: upRest r 6)) (by first | (rw [upRest_z hz_]) | (rw [upRest_n hn_]; simp only [List.length_append, RecR.num]; omega)) (by first | (rw [upMask_z hz_, upRest_z hz_]) | (rw [upMask_n hn_, upRest_n hn_]; simp [bytesV_append, RecR.num]))
    exact ⟨v107, hs.sub (.c rfl (.c rfl (.c rfl (.c rfl (.c rfl .n)))))⟩
   replace hc103 := not_f hc103
   replace hc103 := eq_of_beq hc103
   have hz_ : r.num 5 = 0 := by show r.v2 = 0; assumption
   refine wp_skip ?_
   refine in_n ?_
   refine then_n (hK98 _ _ ?_)
   refine wp_region_lit ?_
   refine st_run 2 [(15, .int .i64 (6)), (36, .int .i64 (6))] hs .n (by kernel_rfl) (by kernel_rfl) (by kernel_rfl) ?_; clear hs a; intro a hs
   refine wpList_nil ?_
   refine then_n ?_
   replace hs := hs.rerow .z (m' := (m + 1 + (upRest r 6).length)) (xs' := bytesV (bs ++ upMask r 6 :: upRest r 6)) (by first | (rw [upRest_z hz_]) | (rw [upRest_n hn_]; simp only [List.length_append, RecR.num]; omega)) (by first | (rw [upMask_z hz_, upRest_z hz_]) | (rw [upMask_n hn_, upRest_n hn_]; simp [bytesV_append, RecR.num]))
   exact ⟨q, hs.sub (.c rfl (.c rfl (.c rfl (.c rfl (.c rfl .n)))))⟩
  clear hs w a; rintro a w ⟨q, hs⟩
  have hlu5 := length_upRest r 6
  refine then_n ?_
  refine rounds_in ?_
  refine wp_seq_k fun K109 hK110 => ?_
  refine wp_region_lit ?_
  refine st_lss hs rfl rfl rfl ?_; clear hs w a; intro a w hs
  rw [show (decide ((6 : Int) < 6)) = false from by decide] at hs
  refine wpList_nil ?_
  refine then_n (hK110 _ _ ?_)
  refine wp_seq_k fun K111 hK112 => ?_
  refine wp_cond_false (hs.ev rfl) ?_
  refine wp_exit ?_
  refine th_e ?_
  refine th_e ?_
  refine in_hit ?_
  refine then_n (hK10 _ _ ?_)
  refine wp_seq_k fun K113 hK114 => ?_
  refine wp_seq_k fun K115 hK116 => ?_
  refine wp_region_lit ?_
  refine st_run 5 [(41, .bool (!(((((r.a).toNat : Nat) : Int) : Int) == 0)))] hs (.c (hs.mem.keep hg (row_blk hr hg (by decide))) .n) (by kernel_rfl) (by kernel_rfl) (by kernel_rfl) ?_; clear hs a; intro a hs
  refine wpList_nil ?_
  refine then_n (hK116 _ _ ?_)
  refine wp_if hs rfl (fun hc117 => ?_) (fun hc117 => ?_)
  ·
   replace hc117 := not_t hc117
   replace hc117 := ne_of_beq_f hc117
   refine wp_seq_k fun K118 hK119 => ?_
   refine wp_region_lit ?_
   refine st_run 2 [(43, .int .i64 ((m : Int))), (42, q)] hs .n (by kernel_rfl) (by kernel_rfl) (by kernel_rfl) ?_; clear hs a; intro a hs
   refine st_ia1 (j := m) hs rfl rfl (rd_row (hs.mem.del .z)) rfl (by omega) Tryz.underlying37 Tryz.sizeOf5 rfl ?_; clear hs w a; intro a w hs
   refine st_ld hs rfl (rd_row (hs.mem.del .z)) (bytesV_getD (bs ++ upMask r 6 :: upRest r 6) (by first | omega | (simp; omega))) Tryz.isAgg5 rfl ?_; clear hs w a; intro a w hs
   rw [getD_mid hml] at hs
   refine st_or_u8 (X := upMask r 6) (Y := 64#8) hs rfl rfl rfl (by decide) rfl ?_; clear hs w a; intro a w hs
   refine st_ia1 (j := m) hs rfl rfl (rd_row (hs.mem.del .z)) rfl (by omega) Tryz.underlying37 Tryz.sizeOf5 rfl ?_; clear hs w a; intro a w hs
   refine st_stR hs rfl rfl .z (by omega) rfl Tryz.sizeOf5 ?_; clear hs w a; intro a w hs
   replace hs := hs.rerow .z (m' := (m + 1 + (upRest r 6).length)) (xs' := bytesV ((bs ++ upMask r 6 :: upRest r 6).set m ((upMask r 6) ||| (64#8)))) (rfl) ((bytesV_set _ _ _).symm)
   refine wpList_nil ?_
   refine then_n (hK119 _ _ ?_)
   refine wp_region_lit ?_
   refine st_mv hs rfl rfl ?_; clear hs w a; intro a w hs
   replace hs := hs.rerow .z (m' := (m + 1 + (upRest r 6).length)) (xs' := bytesV (bs ++ (upMask r 6 ||| 64#8) :: upRest r 6)) (rfl) (by rw [set_mid hml])
   refine st_run 4 [(52, .int .u16 ((((r.a).toNat : Nat) : Int)))] hs (.c (hs.mem.keep hg (row_blk hr hg (by decide))) .n) (by kernel_rfl) (by kernel_rfl) (by kernel_rfl) ?_; clear hs a; intro a hs
   refine st_cv_u16_u64 (X := r.a) hs rfl rfl Tryz.underlying70 Tryz.underlying129 rfl ?_; clear hs w a; intro a w hs
   refine st_call hs (.c rfl .n) Tryz.call93 .n (put_ok ((r.a).setWidth 64) _) rfl ?_; clear hs w a; rintro v120 _ a w rfl hs; simp only [List.cons_append, List.nil_append] at hs
   replace hs := hs.rerow .z (m' := (vput r.a.toNat).length) (xs' := bytesV (vput r.a.toNat)) (by rw [sw64]; rfl) (by rw [sw64])
   refine st_app (size := 1) (bytes := 1) hs rfl rfl (.s .z) (rd_row (hs.mem.del .z)) (oneCell_bytesV _) Tryz.underlying37 (i := Tryz.t5) rfl rfl rfl rfl rfl (by decide) (by omega) (by simp only [maxLen]; omega) rfl ?_; clear hs w a; intro v121 a w hs
   refine st_as hs rfl rfl ?_; clear hs w a; intro a w hs
   refine wpList_nil ?_
   refine then_n (hK114 _ _ ?_)
   refine wp_seq_k fun K122 hK123 => ?_
   refine wp_region_lit ?_
   refine st_run 2 [(4, v121)] hs .n (by kernel_rfl) (by kernel_rfl) (by kernel_rfl) ?_; clear hs a; intro a hs
   refine wpList_nil ?_
   refine then_n (hK123 _ _ ?_)
   refine wp_ret ?_
   replace hs := hs.drop (.c (.s .z) .n)
   replace hs := hs.rerow .z (m' := m + (recSome r).length) (xs' := bytesV (bs ++ recSome r)) (by first | (rw [recSome_z (by omega)]; simp only [List.length_append, List.length_cons]; omega) | (rw [recSome_n (by omega)]; simp only [List.length_append, List.length_cons]; omega)) (by first | (rw [recSome_z (by omega)]) | (rw [recSome_n (by omega)]; simp [bytesV]))
   exact fin hs rfl rfl rfl
  replace hc117 := not_f hc117
  replace hc117 := eq_of_beq hc117
  refine wp_skip ?_
  refine then_n (hK114 _ _ ?_)
  refine wp_seq_k fun K124 hK125 => ?_
  refine wp_region_lit ?_
  refine st_run 2 [(4, q)] hs .n (by kernel_rfl) (by kernel_rfl) (by kernel_rfl) ?_; clear hs a; intro a hs
  refine wpList_nil ?_
  refine then_n (hK125 _ _ ?_)
  refine wp_ret ?_
  replace hs := hs.rerow .z (m' := m + (recSome r).length) (xs' := bytesV (bs ++ recSome r)) (by first | (rw [recSome_z (by omega)]; simp only [List.length_append, List.length_cons]; omega) | (rw [recSome_n (by omega)]; simp only [List.length_append, List.length_cons]; omega)) (by first | (rw [recSome_z (by omega)]) | (rw [recSome_n (by omega)]; simp [bytesV]))
  exact fin hs rfl rfl rfl
theorem kinds1_ok (v : Value) (m : Nat) (bs : List Byte) (g : Nat) (w0 : World) (hr : (row v 5 1 m (bytesV bs)).p w0) : Calls Tryz.prog 137 #[v, .pointer (some ⟨g, 0, none⟩)] w0 (Ret w0 (feet [row v 5 1 m (bytesV bs)]) fun u N => u = v ∧ N = [row v 5 1 m (bytesV bs)]) := by
  refine enter (F0 := [(0, v), (1, .pointer (some ⟨g, 0, none⟩))]) Tryz.func137 rfl rfl rfl (.c (.c .n)) (mem_one hr row_nd) fun a w hs => ?_
  refine wp_seq_k fun K1 hK2 => ?_
  refine wp_region_lit ?_
  refine st_as hs rfl rfl ?_; clear hs w a; intro a w hs
  refine wpList_nil ?_
  refine then_n (hK2 _ _ ?_)
  refine wp_seq_k fun K3 hK4 => ?_
  refine wp_region_lit ?_
  refine st_run 2 [(4, v)] hs .n (by kernel_rfl) (by kernel_rfl) (by kernel_rfl) ?_; clear hs a; intro a hs
  refine wpList_nil ?_
  refine then_n (hK4 _ _ ?_)
  refine wp_ret ?_
  exact fin hs rfl rfl ⟨rfl, rfl⟩
theorem kinds_ok (w0 : World) : Calls Tryz.prog 94 #[] w0 (RetV w0 (.agg #[.func (.func 139) #[] #[], .func (.func 140) #[] #[], .func (.func 141) #[] #[], .func (.func 142) #[] #[], .func (.func 137) #[] #[], .func (.func 138) #[] #[], .func (.func 139) #[] #[], .func (.func 140) #[] #[]])) := by
  refine enter (F0 := []) Tryz.func94 rfl rfl rfl .n (Mem.nil _) fun a w hs => ?_
  refine wp_seq_k fun K1 hK2 => ?_
  refine wp_region_lit ?_
  refine st_alloc (cs := [.nilFunc, .nilFunc, .nilFunc, .nilFunc, .nilFunc, .nilFunc, .nilFunc, .nilFunc]) hs Tryz.zeroValue167 rfl rfl ?_; clear hs w a; intro g3 a w hs
  refine wpList_nil ?_
  refine then_n (hK2 _ _ ?_)
  refine wp_seq_k fun K4 hK5 => ?_
  refine wp_region_lit ?_
  refine st_build (it := Tryz.t166) (zs := [.nilFunc, .nilFunc]) (places := [(0, 1), (1, 1)]) hs (.c rfl (.c rfl .n)) Tryz.underlying166 rfl rfl rfl rfl (.c rfl rfl (.z (.c .n)) (.c rfl rfl (.s (.z (.c .n))) .n)) rfl ?_; clear hs w a; intro a w hs
  refine st_alloc (cs := [.nilFunc, .nilFunc]) hs Tryz.zeroValue166 rfl rfl ?_; clear hs w a; intro g6 a w hs
  refine st_stBA hs rfl rfl .z (.z (.c (.c .n))) (ones_c rfl (ones_c rfl ones_n)) Tryz.sizeOf166 rfl ?_; clear hs w a; intro a w hs
  refine wpList_nil ?_
  refine then_n (hK5 _ _ ?_)
  refine wp_seq_k fun K7 hK8 => ?_
  refine wp_region_lit ?_
  refine st_build (it := Tryz.t166) (zs := [.nilFunc, .nilFunc]) (places := [(0, 1), (1, 1)]) hs (.c rfl (.c rfl .n)) Tryz.underlying166 rfl rfl rfl rfl (.c rfl rfl (.z (.c .n)) (.c rfl rfl (.s (.z (.c .n))) .n)) rfl ?_; clear hs w a; intro a w hs
  refine st_build (it := Tryz.t166) (zs := [.nilFunc, .nilFunc]) (places := [(0, 1), (1, 1)]) hs (.c rfl (.c rfl .n)) Tryz.underlying166 rfl rfl rfl rfl (.c rfl rfl (.z (.c .n)) (.c rfl rfl (.s (.z (.c .n))) .n)) rfl ?_; clear hs w a; intro a w hs
  refine st_ldBA hs rfl .z (.z (.c (.c .n))) Tryz.isAgg166 Tryz.sizeOf166 rfl ?_; clear hs w a; intro a w hs
  refine st_build (it := Tryz.t166) (zs := [.nilFunc, .nilFunc]) (places := [(0, 1), (1, 1)]) hs (.c rfl (.c rfl .n)) Tryz.underlying166 rfl rfl rfl rfl (.c rfl rfl (.z (.c .n)) (.c rfl rfl (.s (.z (.c .n))) .n)) rfl ?_; clear hs w a; intro a w hs
  refine st_buildA (it := Tryz.t167) (ie := Tryz.t166) (zs := [.nilFunc, .nilFunc, .nilFunc, .nilFunc, .nilFunc, .nilFunc, .nilFunc, .nilFunc]) (sz := 2) hs (.c rfl (.c rfl (.c rfl (.c rfl .n)))) Tryz.underlying167 rfl rfl rfl rfl rfl (.c rfl rfl (.z (.c (.c .n))) (.c rfl rfl (.s (.s (.z (.c (.c .n))))) (.c rfl rfl (.s (.s (.s (.s (.z (.c (.c .n))))))) (.c rfl rfl (.s (.s (.s (.s (.s (.s (.z (.c (.c .n))))))))) .n)))) rfl ?_; clear hs w a; intro a w hs
  refine st_stBA hs rfl rfl (.s .z) (.z (.c (.c (.c (.c (.c (.c (.c (.c .n))))))))) (ones_c rfl (ones_c rfl (ones_c rfl (ones_c rfl (ones_c rfl (ones_c rfl (ones_c rfl (ones_c rfl ones_n)))))))) Tryz.sizeOf167 rfl ?_; clear hs w a; intro a w hs
  refine wpList_nil ?_
  refine then_n (hK8 _ _ ?_)
  refine wp_ret ?_
  exact finC hs rfl rfl .z (.z (.c (.c (.c (.c (.c (.c (.c (.c .n))))))))) Tryz.isAgg167 Tryz.sizeOf167 (.c (.s .z) (.c .z .n)) ⟨rfl, rfl⟩
theorem write_ok (r : RecR) (last : Int) (w0 : World) (hw : r.wf) (hl : -9223372036854775808 ≤ last ∧ last ≤ 9223372036854775807) : Calls Tryz.prog 69 #[.agg #[.int .i64 (r.k), .int .i64 (r.id), .int .i64 (r.p0), .int .i64 (r.p1), .int .i64 (r.p2), .int .i64 (r.v0), .int .i64 (r.v1), .int .i64 (r.v2), .int .u16 ((((r.a).toNat : Nat) : Int))], .int .i64 last] w0 (Ret w0 [] fun u N => ∃ v, u = .tuple #[v, .int .i64 ((recErr r last : Nat) : Int)] ∧ N = [row v 5 1 (recB r last).length (bytesV (recB r last))]) := by
  have hwf := hw.facts
  have hva := vlen10 r.a.toNat
  have hal := length_recAll r
  have hsl := length_recSome r
  have hul := length_upRest r 6
  have hul0 := length_upRest r 0
  have hhl := length_recHead r last
  have hvX := vlen_le (BitVec.ofInt 64 (r.id - last - 1)).toNat
  refine enter (F0 := [(0, .agg #[.int .i64 (r.k), .int .i64 (r.id), .int .i64 (r.p0), .int .i64 (r.p1), .int .i64 (r.p2), .int .i64 (r.v0), .int .i64 (r.v1), .int .i64 (r.v2), .int .u16 ((((r.a).toNat : Nat) : Int))]), (1, .int .i64 (last))]) Tryz.func69 rfl rfl rfl (.c (.c .n)) (Mem.nil _) fun a w hs => ?_
  refine wp_seq_k fun K1 hK2 => ?_
  refine wp_region_lit ?_
  refine st_box (cs := [.int .i64 (r.k), .int .i64 (r.id), .int .i64 (r.p0), .int .i64 (r.p1), .int .i64 (r.p2), .int .i64 (r.v0), .int .i64 (r.v1), .int .i64 (r.v2), .int .u16 ((((r.a).toNat : Nat) : Int))]) hs rfl rfl rfl ?_; clear hs w a; intro g3 a w hs
  refine st_run 2 [(5, .int .i64 (0)), (4, .slice none 0 0)] hs .n (by kernel_rfl) (by kernel_rfl) (by kernel_rfl) ?_; clear hs a; intro a hs
  refine wpList_nil ?_
  refine then_n (hK2 _ _ ?_)
  refine wp_seq_k fun K4 hK5 => ?_
  refine wp_seq_k fun K6 hK7 => ?_
  refine wp_region_lit ?_
  refine st_ldBA hs rfl .z (.z (.c (.c (.c (.c (.c (.c (.c (.c (.c .n)))))))))) Tryz.isAgg78 Tryz.sizeOf78 rfl ?_; clear hs w a; intro a w hs
  refine st_callP (v := .int .i64 (((recChk r : Nat) : Int))) hs (.c rfl .n) Tryz.call63 (chk_ok r _) rfl ?_; clear hs w a; intro a w hs
  refine st_as hs rfl rfl ?_; clear hs w a; intro a w hs
  refine wpList_nil ?_
  refine then_n (hK7 _ _ ?_)
  refine wp_seq_k fun K8 hK9 => ?_
  refine wp_region_lit ?_
  refine st_run 2 [(11, .bool (!((((recChk r : Nat) : Int) : Int) == 0)))] hs .n (by kernel_rfl) (by kernel_rfl) (by kernel_rfl) ?_; clear hs a; intro a hs
  refine wpList_nil ?_
  refine then_n (hK9 _ _ ?_)
  refine wp_if hs rfl (fun hc10 => ?_) (fun hc10 => ?_)
  ·
   replace hc10 := not_t hc10
   replace hc10 := ne_of_beq_f hc10
   refine wp_seq_k fun K11 hK12 => ?_
   refine wp_region_lit ?_
   refine st_run 3 [(5, .int .i64 (((recChk r : Nat) : Int))), (4, .slice none 0 0)] hs .n (by kernel_rfl) (by kernel_rfl) (by kernel_rfl) ?_; clear hs a; intro a hs
   refine wpList_nil ?_
   refine then_n (hK12 _ _ ?_)
   refine wp_ret ?_
   refine th_r ?_
   have hre : recErr r last = recChk r := by first | exact recErr_chk (by omega) | exact recErr_rng (by omega) (by omega) | exact recErr_ord (by omega) (by omega) (by omega) | exact recErr_ok (by omega) (by omega) (by omega)
   replace hs := hs.drop (.c .z .n)
   replace hs := hs.addNil 5 1
   replace hs := hs.rerow .z (m' := (recB r last).length) (xs' := bytesV (recB r last)) (by rw [recB_err (by omega)]; rfl) (by rw [recB_err (by omega)]; rfl)
   exact fin2 hs rfl rfl rfl ⟨_, congrArg (fun z : Nat => Value.tuple #[.slice none 0 0, .int .i64 (z : Int)]) hre.symm, rfl⟩
  replace hc10 := not_f hc10
  replace hc10 := eq_of_beq hc10
  have hck := recChk_0 (r := r) (by omega)
  refine wp_skip ?_
  refine then_n (hK5 _ _ ?_)
  refine wp_seq_k fun K13 hK14 => ?_
  refine wp_block ?_
  refine wp_seq_k fun K15 hK16 => ?_
  refine wp_region_lit ?_
  refine st_run 3 [(16, .bool (decide (last < (-1))))] hs .n (by kernel_rfl) (by kernel_rfl) (by kernel_rfl) ?_; clear hs a; intro a hs
  refine st_part (b := decide (last < (-1))) (fun hc17 => ?_) (fun hc17 => ?_)
  ·
   rw [hc17] at hs
   replace hc17 := of_decide_eq_true hc17
   refine st_run 4 [(13, .bool (true))] hs .n (by kernel_rfl) (by kernel_rfl) (by kernel_rfl) ?_; clear hs a; intro a hs
   refine wpList_nil ?_
   refine then_n (hK16 _ _ ?_)
   refine wp_cond_true (hs.ev rfl) ?_
   refine wp_seq_k fun K18 hK19 => ?_
   refine wp_region_lit ?_
   refine st_run 2 [(5, .int .i64 (3)), (4, .slice none 0 0)] hs .n (by kernel_rfl) (by kernel_rfl) (by kernel_rfl) ?_; clear hs a; intro a hs
   refine wpList_nil ?_
   refine then_n (hK19 _ _ ?_)
   refine wp_ret ?_
   refine in_r ?_
   refine th_r ?_
   have hre : recErr r last = 3 := by first | exact recErr_chk (by omega) | exact recErr_rng (by omega) (by omega) | exact recErr_ord (by omega) (by omega) (by omega) | exact recErr_ok (by omega) (by omega) (by omega)
   replace hs := hs.drop (.c .z .n)
   replace hs := hs.addNil 5 1
   replace hs := hs.rerow .z (m' := (recB r last).length) (xs' := bytesV (recB r last)) (by rw [recB_err (by omega)]; rfl) (by rw [recB_err (by omega)]; rfl)
   exact fin2 hs rfl rfl rfl ⟨_, congrArg (fun z : Nat => Value.tuple #[.slice none 0 0, .int .i64 (z : Int)]) hre.symm, rfl⟩
  rw [hc17] at hs
  replace hc17 := of_decide_eq_false hc17
  refine st_run 4 [(13, .bool (decide (65535 < last)))] hs .n (by kernel_rfl) (by kernel_rfl) (by kernel_rfl) ?_; clear hs a; intro a hs
  refine wpList_nil ?_
  refine then_n (hK16 _ _ ?_)
  refine wp_if hs rfl (fun hc20 => ?_) (fun hc20 => ?_)
  ·
   replace hc20 := of_decide_eq_true hc20
   refine wp_seq_k fun K21 hK22 => ?_
   refine wp_region_lit ?_
   refine st_run 2 [(5, .int .i64 (3)), (4, .slice none 0 0)] hs .n (by kernel_rfl) (by kernel_rfl) (by kernel_rfl) ?_; clear hs a; intro a hs
   refine wpList_nil ?_
   refine then_n (hK22 _ _ ?_)
   refine wp_ret ?_
   refine in_r ?_
   refine th_r ?_
   have hre : recErr r last = 3 := by first | exact recErr_chk (by omega) | exact recErr_rng (by omega) (by omega) | exact recErr_ord (by omega) (by omega) (by omega) | exact recErr_ok (by omega) (by omega) (by omega)
   replace hs := hs.drop (.c .z .n)
   replace hs := hs.addNil 5 1
   replace hs := hs.rerow .z (m' := (recB r last).length) (xs' := bytesV (recB r last)) (by rw [recB_err (by omega)]; rfl) (by rw [recB_err (by omega)]; rfl)
   exact fin2 hs rfl rfl rfl ⟨_, congrArg (fun z : Nat => Value.tuple #[.slice none 0 0, .int .i64 (z : Int)]) hre.symm, rfl⟩
  replace hc20 := of_decide_eq_false hc20
  refine wp_seq_k fun K23 hK24 => ?_
  refine wp_region_lit ?_
  refine st_run 5 [(20, .bool (decide (r.id ≤ last)))] hs (.c (hs.mem.del .z) .n) (by kernel_rfl) (by kernel_rfl) (by kernel_rfl) ?_; clear hs a; intro a hs
  refine wpList_nil ?_
  refine then_n (hK24 _ _ ?_)
  refine wp_if hs rfl (fun hc25 => ?_) (fun hc25 => ?_)
  ·
   replace hc25 := of_decide_eq_true hc25
   refine wp_seq_k fun K26 hK27 => ?_
   refine wp_region_lit ?_
   refine st_run 2 [(5, .int .i64 (10)), (4, .slice none 0 0)] hs .n (by kernel_rfl) (by kernel_rfl) (by kernel_rfl) ?_; clear hs a; intro a hs
   refine wpList_nil ?_
   refine then_n (hK27 _ _ ?_)
   refine wp_ret ?_
   refine in_r ?_
   refine th_r ?_
   have hre : recErr r last = 10 := by first | exact recErr_chk (by omega) | exact recErr_rng (by omega) (by omega) | exact recErr_ord (by omega) (by omega) (by omega) | exact recErr_ok (by omega) (by omega) (by omega)
   replace hs := hs.drop (.c .z .n)
   replace hs := hs.addNil 5 1
   replace hs := hs.rerow .z (m' := (recB r last).length) (xs' := bytesV (recB r last)) (by rw [recB_err (by omega)]; rfl) (by rw [recB_err (by omega)]; rfl)
   exact fin2 hs rfl rfl rfl ⟨_, congrArg (fun z : Nat => Value.tuple #[.slice none 0 0, .int .i64 (z : Int)]) hre.symm, rfl⟩
  replace hc25 := of_decide_eq_false hc25
  refine wp_skip ?_
  refine in_n ?_
  refine then_n (hK14 _ _ ?_)
  refine wp_seq_k fun K28 hK29 => ?_
  replace hs := hs.sub (F' := [(5, .int .i64 (0)), (4, .slice none 0 0), (2, .pointer (some ⟨g3, 0, none⟩)), (1, .int .i64 (last))]) (.c rfl (.c rfl (.c rfl (.c rfl .n))))
  refine wp_drawG (M0 := [blk g3 [.int .i64 (r.k), .int .i64 (r.id), .int .i64 (r.p0), .int .i64 (r.p1), .int .i64 (r.p2), .int .i64 (r.v0), .int .i64 (r.v1), .int .i64 (r.v2), .int .u16 ((((r.a).toNat : Nat) : Int))] 78]) (Ds := [Pv 0 (.pointer (some ⟨g3, 1, none⟩)), Pv 1 (.int .i64 (r.id)), Pv 2 (.int .i64 (last)), Pv 3 (.int .i64 (r.id - last)), Pv 4 (.int .i64 ((r.id - last) - 1)), Pv 5 (.int .u64 ((((BitVec.ofInt 64 ((r.id - last) - 1)).toNat : Nat) : Int))), ⟨[], [], [], fun vs30 => True, fun vs30 => [row (vs30 6) 5 1 (vlen (BitVec.ofInt 64 ((r.id - last) - 1)).toNat) (bytesV (vput (BitVec.ofInt 64 ((r.id - last) - 1)).toNat))], none⟩, Pv 7 (.pointer (some ⟨g3, 0, none⟩)), Pv 8 (.int .i64 (r.k)), Pv 9 (.int .u8 ((((BitVec.ofInt 8 r.k).toNat : Nat) : Int))), ⟨[], [], [], fun vs30 => vs30 10 = .slice (some ⟨(ptrG (vs30 10)), 0, none⟩) 1 1, fun vs30 => [blk (ptrG (vs30 10)) [.int .u8 ((((BitVec.ofInt 8 r.k).toNat : Nat) : Int))] 5], none⟩, ⟨[], [6], [], fun vs30 => True, fun vs30 => [row (vs30 11) 5 1 ((recHead r last).length) (bytesV (recHead r last))], none⟩, ⟨[], [], [11], fun vs30 => vs30 12 = (vs30 11), fun vs30 => [], none⟩]) (by kernel_rfl) hs rfl .n (by kernel_rfl) (by kernel_rfl) (by kernel_rfl) ?_ ?_
  ·
   refine (.c ?_ (.c ?_ (.c ?_ (.c ?_ (.c ?_ (.c ?_ (.c ?_ (.c ?_ (.c ?_ (.c ?_ (.c ?_ (.c ?_ (.c ?_ .n)))))))))))))
   · exact trip_pv (m := 13) .n (fun hm0 hm hx => .n) (by kernel_rfl) (by kernel_rfl) rfl
   · exact trip_pv (m := 13) (.c (k := 0) (by kernel_rfl) rfl rfl .n) (fun hm0 hm hx => (.c (hm0.del .z))) (by kernel_rfl) (by kernel_rfl) rfl
   · exact trip_pv (m := 13) .n (fun hm0 hm hx => .n) (by kernel_rfl) (by kernel_rfl) rfl
   ·
    intro a_ w_ R_ rest_ vs30 hm hs ht hx
    have hm0 := hm.mid
    replace hs := hs.lrn (ht 1 (twB_spec 13 _ (by kernel_rfl))) rfl rfl
    replace hs := hs.lrn (ht 2 (twB_spec 13 _ (by kernel_rfl))) rfl rfl
    have hs0 := hs.bare
    refine st_subR hs rfl rfl (by omega) rfl ?_; clear hs; intro a w hs
    exact wpList_nil ⟨rfl, _, _, hs0, (.c (.c .r)), hs, rfl⟩
   ·
    intro a_ w_ R_ rest_ vs30 hm hs ht hx
    have hm0 := hm.mid
    replace hs := hs.lrn (ht 3 (twB_spec 13 _ (by kernel_rfl))) rfl rfl
    have hs0 := hs.bare
    refine st_subR hs rfl rfl (by omega) rfl ?_; clear hs; intro a w hs
    exact wpList_nil ⟨rfl, _, _, hs0, (.c .r), hs, rfl⟩
   ·
    intro a_ w_ R_ rest_ vs30 hm hs ht hx
    have hm0 := hm.mid
    replace hs := hs.lrn (ht 4 (twB_spec 13 _ (by kernel_rfl))) rfl rfl
    have hs0 := hs.bare
    refine st_cv_u64 hs rfl Tryz.underlying3 Tryz.underlying129 rfl ?_; clear hs; intro a w hs
    exact wpList_nil ⟨rfl, _, _, hs0, (.c .r), hs, rfl⟩
   ·
    intro a_ w_ R_ rest_ vs30 hm hs ht hx
    have hm0 := hm.mid
    replace hs := hs.lrn (ht 5 (twB_spec 13 _ (by kernel_rfl))) rfl rfl
    have hs0 := hs.bare
    refine st_call hs (.c rfl .n) Tryz.call93 .n (put_ok (BitVec.ofInt 64 ((r.id - last) - 1)) _) rfl ?_; clear hs; rintro v31 _ a w rfl hs; simp only [List.cons_append, List.nil_append] at hs
    exact wpList_nil ⟨rfl, _, _, hs0, (.c .r), hs, trivial⟩
   · exact trip_pv (m := 13) .n (fun hm0 hm hx => .n) (by kernel_rfl) (by kernel_rfl) rfl
   · exact trip_pv (m := 13) (.c (k := 7) (by kernel_rfl) rfl rfl .n) (fun hm0 hm hx => (.c (hm0.del .z))) (by kernel_rfl) (by kernel_rfl) rfl
   ·
    intro a_ w_ R_ rest_ vs30 hm hs ht hx
    have hm0 := hm.mid
    replace hs := hs.lrn (ht 8 (twB_spec 13 _ (by kernel_rfl))) rfl rfl
    have hs0 := hs.bare
    refine st_cv_u8 hs rfl Tryz.underlying3 Tryz.underlying5 rfl ?_; clear hs; intro a w hs
    exact wpList_nil ⟨rfl, _, _, hs0, (.c .r), hs, rfl⟩
   ·
    intro a_ w_ R_ rest_ vs30 hm hs ht hx
    have hm0 := hm.mid
    replace hs := hs.lrn (ht 9 (twB_spec 13 _ (by kernel_rfl))) rfl rfl
    have hs0 := hs.bare
    refine st_bs (cs := [.int .u8 ((((BitVec.ofInt 8 r.k).toNat : Nat) : Int))]) hs (.c .n) (.c rfl .n) Tryz.underlying37 (ie := Tryz.t5) rfl rfl rfl rfl (by decide) (by decide) rfl (by decide) rfl rfl rfl ?_; clear hs; intro g32 a w hs
    exact wpList_nil ⟨rfl, _, _, hs0, (.c .r), hs, rfl⟩
   ·
    intro a_ w_ R_ rest_ vs30 hm hs ht hx
    replace hs : St _ _ _ (feet [row (vs30 6) 5 1 (vlen (BitVec.ofInt 64 ((r.id - last) - 1)).toNat) (bytesV (vput (BitVec.ofInt 64 ((r.id - last) - 1)).toNat))]) [row (vs30 6) 5 1 (vlen (BitVec.ofInt 64 ((r.id - last) - 1)).toNat) (bytesV (vput (BitVec.ofInt 64 ((r.id - last) - 1)).toNat))] _ _ := hs
    have hm0 := hm.mid
    have t6 := ht 6 (twB_spec 13 _ (by kernel_rfl))
    have e6 : _ = some (vs30 6) := t6.val rfl
    replace hs := hs.learn e6
    have t10 := ht 10 (twB_spec 13 _ (by kernel_rfl))
    have e10 : _ = some (vs30 10) := t10.val rfl
    rw [show vs30 10 = .slice (some ⟨(ptrG (vs30 10)), 0, none⟩) 1 1 from t10.2.1] at e10
    replace hs := hs.learn e10
    have hs0 := hs.bare
    refine st_app (size := 1) (bytes := 1) hs rfl rfl .z (rd_blk (m := 1) (size := 1) (hm.own (List.mem_append.2 (.inr ((ht 10 (twB_spec 13 _ (by kernel_rfl))).2.2 (later (n := 13) (by kernel_rfl)) _ (List.Mem.head _))))) rfl (by decide)) (by simp [Value.oneCell']) Tryz.underlying37 (i := Tryz.t5) rfl rfl rfl rfl rfl (by decide) (by omega) (by simp only [maxLen]; omega) rfl ?_; clear hs; intro v33 a w hs
    replace hs := hs.rerow .z (m' := (recHead r last).length) (xs' := bytesV (recHead r last)) (by unfold recHead; simp only [List.length_append, List.length_cons, List.length_nil, vlen]) (by unfold recHead; rw [bytesV_append]; rfl)
    exact wpList_nil ⟨rfl, _, _, hs0, (.c (.c .r)), hs, trivial⟩
   intro a_ w_ R_ rest_ vs30 hm hs ht hx
   have hm0 := hm.mid
   have t11 := ht 11 (twB_spec 13 _ (by kernel_rfl))
   have e11 : _ = some (vs30 11) := t11.val rfl
   replace hs := hs.learn e11
   have hs0 := hs.bare
   refine st_as hs rfl rfl ?_; clear hs; intro a w hs
   exact wpList_nil ⟨rfl, _, _, hs0, (.c .r), hs, rfl⟩
  clear hs w a; intro a w vs30 hs hf
  replace hs : St _ _ _ _ [blk g3 [.int .i64 (r.k), .int .i64 (r.id), .int .i64 (r.p0), .int .i64 (r.p1), .int .i64 (r.p2), .int .i64 (r.v0), .int .i64 (r.v1), .int .i64 (r.v2), .int .u16 ((((r.a).toNat : Nat) : Int))] 78, blk (ptrG (vs30 10)) [.int .u8 ((((BitVec.ofInt 8 r.k).toNat : Nat) : Int))] 5, row (vs30 11) 5 1 ((recHead r last).length) (bytesV (recHead r last))] _ _ := hs
  obtain ⟨e12, q12⟩ := hf 12 (by decide)
  replace e12 : _ = some (vs30 12) := e12.val rfl
  rw [show vs30 12 = (vs30 11) from q12] at e12
  replace hs := hs.learn e12; clear e12 q12
  generalize ptrG (vs30 10) = g34 at hs
  generalize vs30 11 = v35 at hs
  clear hf
  refine then_n (hK29 _ _ ?_)
  refine wp_seq_k fun K36 hK37 => ?_
  rcases (show r.k = 0 ∨ r.k = 1 ∨ r.k = 2 ∨ r.k = 3 from by omega) with hk38 | hk38 | hk38 | hk38
  ·
   replace hs := hs.sub (F' := [(7, v35), (2, .pointer (some ⟨g3, 0, none⟩))]) (.c rfl (.c rfl .n))
   refine wp_drawG (M0 := [blk g3 [.int .i64 (r.k), .int .i64 (r.id), .int .i64 (r.p0), .int .i64 (r.p1), .int .i64 (r.p2), .int .i64 (r.v0), .int .i64 (r.v1), .int .i64 (r.v2), .int .u16 ((((r.a).toNat : Nat) : Int))] 78, blk g34 [.int .u8 ((((BitVec.ofInt 8 r.k).toNat : Nat) : Int))] 5]) (Ds := [Pv 0 (.agg #[.func (.func 139) #[] #[], .func (.func 140) #[] #[], .func (.func 141) #[] #[], .func (.func 142) #[] #[], .func (.func 137) #[] #[], .func (.func 138) #[] #[], .func (.func 139) #[] #[], .func (.func 140) #[] #[]]), Pv 1 (.pointer (some ⟨g3, 0, none⟩)), Pv 2 (.int .i64 (0)), Pv 3 (.agg #[.func (.func 139) #[] #[], .func (.func 140) #[] #[]]), Pv 4 (.func (.func 139) #[] #[]), Pv 5 v35, ⟨[row v35 5 1 ((recHead r last).length) (bytesV (recHead r last))], [], [], fun vs39 => True, fun vs39 => [row (vs39 6) 5 1 (((recHead r last).length) + (recAll r).length) (bytesV ((recHead r last) ++ recAll r))], none⟩, ⟨[], [], [6], fun vs39 => vs39 7 = (vs39 6), fun vs39 => [], none⟩, Pv 8 (.int .i64 (0))]) (by kernel_rfl) hs rfl (.c (.s (.s .z)) .n) (by kernel_rfl) (by kernel_rfl) (by kernel_rfl) ?_ ?_
   ·
    refine (.c ?_ (.c ?_ (.c ?_ (.c ?_ (.c ?_ (.c ?_ (.c ?_ (.c ?_ (.c ?_ .n)))))))))
    ·
     intro a_ w_ R_ rest_ vs39 hm hs ht hx
     have hm0 := hm.mid
     have hs0 := hs.bare
     refine st_callP (v := .agg #[.func (.func 139) #[] #[], .func (.func 140) #[] #[], .func (.func 141) #[] #[], .func (.func 142) #[] #[], .func (.func 137) #[] #[], .func (.func 138) #[] #[], .func (.func 139) #[] #[], .func (.func 140) #[] #[]]) hs .n Tryz.call94 (kinds_ok _) rfl ?_; clear hs; intro a w hs
     exact wpList_nil ⟨rfl, _, _, hs0, .r, hs, rfl⟩
    · exact trip_pv (m := 9) .n (fun hm0 hm hx => .n) (by kernel_rfl) (by kernel_rfl) rfl
    ·
     intro a_ w_ R_ rest_ vs39 hm hs ht hx
     have hm0 := hm.mid
     replace hs := hs.lrn (ht 1 (twB_spec 9 _ (by kernel_rfl))) rfl rfl
     have hs0 := hs.bare
     refine st_ldE hs rfl (hm0.del .z) .z Tryz.isAgg3 rfl ?_; clear hs; intro a w hs
     replace hs := hs.recell (v' := .int .i64 (0)) (Option.some.inj (congrArg (fun z => some (Value.int .i64 z)) hk38))
     exact wpList_nil ⟨rfl, _, _, hs0, (.c .r), hs, rfl⟩
    · exact trip_pv (m := 9) (.c (k := 0) (by kernel_rfl) rfl rfl (.c (k := 2) (by kernel_rfl) rfl rfl .n)) (fun hm0 hm hx => .n) (by kernel_rfl) (by kernel_rfl) rfl
    · exact trip_pv (m := 9) (.c (k := 3) (by kernel_rfl) rfl rfl .n) (fun hm0 hm hx => .n) (by kernel_rfl) (by kernel_rfl) rfl
    · exact trip_pv (m := 9) .n (fun hm0 hm hx => .n) (by kernel_rfl) (by kernel_rfl) rfl
    ·
     intro a_ w_ R_ rest_ vs39 hm hs ht hx
     replace hs : St _ _ _ (feet [row v35 5 1 ((recHead r last).length) (bytesV (recHead r last))]) [row v35 5 1 ((recHead r last).length) (bytesV (recHead r last))] _ _ := hs
     have hm0 := hm.mid
     replace hs := hs.lrn (ht 4 (twB_spec 9 _ (by kernel_rfl))) rfl rfl
     replace hs := hs.lrn (ht 5 (twB_spec 9 _ (by kernel_rfl))) rfl rfl
     have hs0 := hs.bare
     refine st_callV (us := []) hs rfl (.c rfl (.c rfl .n)) rfl Tryz.call139 (.c .z .n) (writeAll_ok _ _ (recHead r last) g3 r _ (hs.mem.del .z) (by omega) (hm0.del .z) hw) rfl ?_; clear hs; rintro v40 _ a w rfl hs; simp only [List.cons_append, List.nil_append] at hs
     exact wpList_nil ⟨rfl, _, _, hs0, (.c (.c .r)), hs, trivial⟩
    ·
     intro a_ w_ R_ rest_ vs39 hm hs ht hx
     have hm0 := hm.mid
     have t6 := ht 6 (twB_spec 9 _ (by kernel_rfl))
     have e6 : _ = some (vs39 6) := t6.val rfl
     replace hs := hs.learn e6
     have hs0 := hs.bare
     refine st_as hs rfl rfl ?_; clear hs; intro a w hs
     exact wpList_nil ⟨rfl, _, _, hs0, (.c .r), hs, rfl⟩
    exact trip_pv (m := 9) .n (fun hm0 hm hx => .n) (by kernel_rfl) (by kernel_rfl) rfl
   clear hs w a; intro a w vs39 hs hf
   replace hs : St _ _ _ _ [blk g3 [.int .i64 (r.k), .int .i64 (r.id), .int .i64 (r.p0), .int .i64 (r.p1), .int .i64 (r.p2), .int .i64 (r.v0), .int .i64 (r.v1), .int .i64 (r.v2), .int .u16 ((((r.a).toNat : Nat) : Int))] 78, blk g34 [.int .u8 ((((BitVec.ofInt 8 r.k).toNat : Nat) : Int))] 5, row (vs39 6) 5 1 (((recHead r last).length) + (recAll r).length) (bytesV ((recHead r last) ++ recAll r))] _ _ := hs
   obtain ⟨e7, q7⟩ := hf 7 (by decide)
   replace e7 : _ = some (vs39 7) := e7.val rfl
   rw [show vs39 7 = (vs39 6) from q7] at e7
   replace hs := hs.learn e7; clear e7 q7
   obtain ⟨e8, q8⟩ := hf 8 (by decide)
   replace e8 : _ = some (vs39 8) := e8.val rfl
   rw [show vs39 8 = .int .i64 (0) from q8] at e8
   replace hs := hs.learn e8; clear e8 q8
   generalize vs39 6 = v41 at hs
   clear hf
   refine then_n (hK37 _ _ ?_)
   refine wp_ret ?_
   have hre : recErr r last = 0 := by first | exact recErr_chk (by omega) | exact recErr_rng (by omega) (by omega) | exact recErr_ord (by omega) (by omega) (by omega) | exact recErr_ok (by omega) (by omega) (by omega)
   replace hs := hs.drop (.c (.s .z) (.c .z .n))
   replace hs := hs.rerow .z (m' := (recB r last).length) (xs' := bytesV (recB r last)) (by first | ((first | rw [recB_all hre (by omega)] | rw [recB_some hre (by omega)] | rw [recB_none hre (by omega)]) <;> simp only [List.length_append]; done) | ((first | rw [recB_all hre (by omega)] | rw [recB_some hre (by omega), recSome_z (by omega)] | rw [recB_some hre (by omega), recSome_n (by omega)] | rw [recB_none hre (by omega)]) <;> simp only [List.length_append, List.length_cons, List.length_nil, recAll] <;> omega)) (by first | ((first | rw [recB_all hre (by omega)] | rw [recB_some hre (by omega)] | rw [recB_none hre (by omega)]) <;> rfl) | ((first | rw [recB_all hre (by omega)] | rw [recB_some hre (by omega), recSome_z (by omega)] | rw [recB_some hre (by omega), recSome_n (by omega)] | rw [recB_none hre (by omega)]) <;> simp only [recAll, bytesV, List.map_append, List.map_cons, List.map_nil, List.append_assoc, List.cons_append, List.nil_append] <;> rfl))
   exact fin2 hs rfl rfl rfl ⟨_, congrArg (fun z : Nat => Value.tuple #[v41, .int .i64 (z : Int)]) hre.symm, rfl⟩
  ·
   replace hs := hs.sub (F' := [(7, v35), (2, .pointer (some ⟨g3, 0, none⟩))]) (.c rfl (.c rfl .n))
   refine wp_drawG (M0 := [blk g3 [.int .i64 (r.k), .int .i64 (r.id), .int .i64 (r.p0), .int .i64 (r.p1), .int .i64 (r.p2), .int .i64 (r.v0), .int .i64 (r.v1), .int .i64 (r.v2), .int .u16 ((((r.a).toNat : Nat) : Int))] 78, blk g34 [.int .u8 ((((BitVec.ofInt 8 r.k).toNat : Nat) : Int))] 5]) (Ds := [Pv 0 (.agg #[.func (.func 139) #[] #[], .func (.func 140) #[] #[], .func (.func 141) #[] #[], .func (.func 142) #[] #[], .func (.func 137) #[] #[], .func (.func 138) #[] #[], .func (.func 139) #[] #[], .func (.func 140) #[] #[]]), Pv 1 (.pointer (some ⟨g3, 0, none⟩)), Pv 2 (.int .i64 (1)), Pv 3 (.agg #[.func (.func 141) #[] #[], .func (.func 142) #[] #[]]), Pv 4 (.func (.func 141) #[] #[]), Pv 5 v35, ⟨[row v35 5 1 ((recHead r last).length) (bytesV (recHead r last))], [], [], fun vs42 => True, fun vs42 => [row (vs42 6) 5 1 (((recHead r last).length) + (recSome r).length) (bytesV ((recHead r last) ++ recSome r))], none⟩, ⟨[], [], [6], fun vs42 => vs42 7 = (vs42 6), fun vs42 => [], none⟩, Pv 8 (.int .i64 (0))]) (by kernel_rfl) hs rfl (.c (.s (.s .z)) .n) (by kernel_rfl) (by kernel_rfl) (by kernel_rfl) ?_ ?_
   ·
    refine (.c ?_ (.c ?_ (.c ?_ (.c ?_ (.c ?_ (.c ?_ (.c ?_ (.c ?_ (.c ?_ .n)))))))))
    ·
     intro a_ w_ R_ rest_ vs42 hm hs ht hx
     have hm0 := hm.mid
     have hs0 := hs.bare
     refine st_callP (v := .agg #[.func (.func 139) #[] #[], .func (.func 140) #[] #[], .func (.func 141) #[] #[], .func (.func 142) #[] #[], .func (.func 137) #[] #[], .func (.func 138) #[] #[], .func (.func 139) #[] #[], .func (.func 140) #[] #[]]) hs .n Tryz.call94 (kinds_ok _) rfl ?_; clear hs; intro a w hs
     exact wpList_nil ⟨rfl, _, _, hs0, .r, hs, rfl⟩
    · exact trip_pv (m := 9) .n (fun hm0 hm hx => .n) (by kernel_rfl) (by kernel_rfl) rfl
    ·
     intro a_ w_ R_ rest_ vs42 hm hs ht hx
     have hm0 := hm.mid
     replace hs := hs.lrn (ht 1 (twB_spec 9 _ (by kernel_rfl))) rfl rfl
     have hs0 := hs.bare
     refine st_ldE hs rfl (hm0.del .z) .z Tryz.isAgg3 rfl ?_; clear hs; intro a w hs
     replace hs := hs.recell (v' := .int .i64 (1)) (Option.some.inj (congrArg (fun z => some (Value.int .i64 z)) hk38))
     exact wpList_nil ⟨rfl, _, _, hs0, (.c .r), hs, rfl⟩
    · exact trip_pv (m := 9) (.c (k := 0) (by kernel_rfl) rfl rfl (.c (k := 2) (by kernel_rfl) rfl rfl .n)) (fun hm0 hm hx => .n) (by kernel_rfl) (by kernel_rfl) rfl
    · exact trip_pv (m := 9) (.c (k := 3) (by kernel_rfl) rfl rfl .n) (fun hm0 hm hx => .n) (by kernel_rfl) (by kernel_rfl) rfl
    · exact trip_pv (m := 9) .n (fun hm0 hm hx => .n) (by kernel_rfl) (by kernel_rfl) rfl
    ·
     intro a_ w_ R_ rest_ vs42 hm hs ht hx
     replace hs : St _ _ _ (feet [row v35 5 1 ((recHead r last).length) (bytesV (recHead r last))]) [row v35 5 1 ((recHead r last).length) (bytesV (recHead r last))] _ _ := hs
     have hm0 := hm.mid
     replace hs := hs.lrn (ht 4 (twB_spec 9 _ (by kernel_rfl))) rfl rfl
     replace hs := hs.lrn (ht 5 (twB_spec 9 _ (by kernel_rfl))) rfl rfl
     have hs0 := hs.bare
     refine st_callV (us := []) hs rfl (.c rfl (.c rfl .n)) rfl Tryz.call141 (.c .z .n) (writeSome_ok _ _ (recHead r last) g3 r _ (hs.mem.del .z) (by omega) (hm0.del .z) hw) rfl ?_; clear hs; rintro v43 _ a w rfl hs; simp only [List.cons_append, List.nil_append] at hs
     exact wpList_nil ⟨rfl, _, _, hs0, (.c (.c .r)), hs, trivial⟩
    ·
     intro a_ w_ R_ rest_ vs42 hm hs ht hx
     have hm0 := hm.mid
     have t6 := ht 6 (twB_spec 9 _ (by kernel_rfl))
     have e6 : _ = some (vs42 6) := t6.val rfl
     replace hs := hs.learn e6
     have hs0 := hs.bare
     refine st_as hs rfl rfl ?_; clear hs; intro a w hs
     exact wpList_nil ⟨rfl, _, _, hs0, (.c .r), hs, rfl⟩
    exact trip_pv (m := 9) .n (fun hm0 hm hx => .n) (by kernel_rfl) (by kernel_rfl) rfl
   clear hs w a; intro a w vs42 hs hf
   replace hs : St _ _ _ _ [blk g3 [.int .i64 (r.k), .int .i64 (r.id), .int .i64 (r.p0), .int .i64 (r.p1), .int .i64 (r.p2), .int .i64 (r.v0), .int .i64 (r.v1), .int .i64 (r.v2), .int .u16 ((((r.a).toNat : Nat) : Int))] 78, blk g34 [.int .u8 ((((BitVec.ofInt 8 r.k).toNat : Nat) : Int))] 5, row (vs42 6) 5 1 (((recHead r last).length) + (recSome r).length) (bytesV ((recHead r last) ++ recSome r))] _ _ := hs
   obtain ⟨e7, q7⟩ := hf 7 (by decide)
   replace e7 : _ = some (vs42 7) := e7.val rfl
   rw [show vs42 7 = (vs42 6) from q7] at e7
   replace hs := hs.learn e7; clear e7 q7
   obtain ⟨e8, q8⟩ := hf 8 (by decide)
   replace e8 : _ = some (vs42 8) := e8.val rfl
   rw [show vs42 8 = .int .i64 (0) from q8] at e8
   replace hs := hs.learn e8; clear e8 q8
   generalize vs42 6 = v44 at hs
   clear hf
   refine then_n (hK37 _ _ ?_)
   refine wp_ret ?_
   have hre : recErr r last = 0 := by first | exact recErr_chk (by omega) | exact recErr_rng (by omega) (by omega) | exact recErr_ord (by omega) (by omega) (by omega) | exact recErr_ok (by omega) (by omega) (by omega)
   replace hs := hs.drop (.c (.s .z) (.c .z .n))
   replace hs := hs.rerow .z (m' := (recB r last).length) (xs' := bytesV (recB r last)) (by first | ((first | rw [recB_all hre (by omega)] | rw [recB_some hre (by omega)] | rw [recB_none hre (by omega)]) <;> simp only [List.length_append]; done) | ((first | rw [recB_all hre (by omega)] | rw [recB_some hre (by omega), recSome_z (by omega)] | rw [recB_some hre (by omega), recSome_n (by omega)] | rw [recB_none hre (by omega)]) <;> simp only [List.length_append, List.length_cons, List.length_nil, recAll] <;> omega)) (by first | ((first | rw [recB_all hre (by omega)] | rw [recB_some hre (by omega)] | rw [recB_none hre (by omega)]) <;> rfl) | ((first | rw [recB_all hre (by omega)] | rw [recB_some hre (by omega), recSome_z (by omega)] | rw [recB_some hre (by omega), recSome_n (by omega)] | rw [recB_none hre (by omega)]) <;> simp only [recAll, bytesV, List.map_append, List.map_cons, List.map_nil, List.append_assoc, List.cons_append, List.nil_append] <;> rfl))
   exact fin2 hs rfl rfl rfl ⟨_, congrArg (fun z : Nat => Value.tuple #[v44, .int .i64 (z : Int)]) hre.symm, rfl⟩
  ·
   replace hs := hs.sub (F' := [(7, v35), (2, .pointer (some ⟨g3, 0, none⟩))]) (.c rfl (.c rfl .n))
   refine wp_drawG (M0 := [blk g3 [.int .i64 (r.k), .int .i64 (r.id), .int .i64 (r.p0), .int .i64 (r.p1), .int .i64 (r.p2), .int .i64 (r.v0), .int .i64 (r.v1), .int .i64 (r.v2), .int .u16 ((((r.a).toNat : Nat) : Int))] 78, blk g34 [.int .u8 ((((BitVec.ofInt 8 r.k).toNat : Nat) : Int))] 5]) (Ds := [Pv 0 (.agg #[.func (.func 139) #[] #[], .func (.func 140) #[] #[], .func (.func 141) #[] #[], .func (.func 142) #[] #[], .func (.func 137) #[] #[], .func (.func 138) #[] #[], .func (.func 139) #[] #[], .func (.func 140) #[] #[]]), Pv 1 (.pointer (some ⟨g3, 0, none⟩)), Pv 2 (.int .i64 (2)), Pv 3 (.agg #[.func (.func 137) #[] #[], .func (.func 138) #[] #[]]), Pv 4 (.func (.func 137) #[] #[]), Pv 5 v35, ⟨[row v35 5 1 ((recHead r last).length) (bytesV (recHead r last))], [], [], fun vs45 => True, fun vs45 => [row (vs45 6) 5 1 ((recHead r last).length) (bytesV (recHead r last))], none⟩, ⟨[], [], [6], fun vs45 => vs45 7 = (vs45 6), fun vs45 => [], none⟩, Pv 8 (.int .i64 (0))]) (by kernel_rfl) hs rfl (.c (.s (.s .z)) .n) (by kernel_rfl) (by kernel_rfl) (by kernel_rfl) ?_ ?_
   ·
    refine (.c ?_ (.c ?_ (.c ?_ (.c ?_ (.c ?_ (.c ?_ (.c ?_ (.c ?_ (.c ?_ .n)))))))))
    ·
     intro a_ w_ R_ rest_ vs45 hm hs ht hx
     have hm0 := hm.mid
     have hs0 := hs.bare
     refine st_callP (v := .agg #[.func (.func 139) #[] #[], .func (.func 140) #[] #[], .func (.func 141) #[] #[], .func (.func 142) #[] #[], .func (.func 137) #[] #[], .func (.func 138) #[] #[], .func (.func 139) #[] #[], .func (.func 140) #[] #[]]) hs .n Tryz.call94 (kinds_ok _) rfl ?_; clear hs; intro a w hs
     exact wpList_nil ⟨rfl, _, _, hs0, .r, hs, rfl⟩
    · exact trip_pv (m := 9) .n (fun hm0 hm hx => .n) (by kernel_rfl) (by kernel_rfl) rfl
    ·
     intro a_ w_ R_ rest_ vs45 hm hs ht hx
     have hm0 := hm.mid
     replace hs := hs.lrn (ht 1 (twB_spec 9 _ (by kernel_rfl))) rfl rfl
     have hs0 := hs.bare
     refine st_ldE hs rfl (hm0.del .z) .z Tryz.isAgg3 rfl ?_; clear hs; intro a w hs
     replace hs := hs.recell (v' := .int .i64 (2)) (Option.some.inj (congrArg (fun z => some (Value.int .i64 z)) hk38))
     exact wpList_nil ⟨rfl, _, _, hs0, (.c .r), hs, rfl⟩
    · exact trip_pv (m := 9) (.c (k := 0) (by kernel_rfl) rfl rfl (.c (k := 2) (by kernel_rfl) rfl rfl .n)) (fun hm0 hm hx => .n) (by kernel_rfl) (by kernel_rfl) rfl
    · exact trip_pv (m := 9) (.c (k := 3) (by kernel_rfl) rfl rfl .n) (fun hm0 hm hx => .n) (by kernel_rfl) (by kernel_rfl) rfl
    · exact trip_pv (m := 9) .n (fun hm0 hm hx => .n) (by kernel_rfl) (by kernel_rfl) rfl
    ·
     intro a_ w_ R_ rest_ vs45 hm hs ht hx
     replace hs : St _ _ _ (feet [row v35 5 1 ((recHead r last).length) (bytesV (recHead r last))]) [row v35 5 1 ((recHead r last).length) (bytesV (recHead r last))] _ _ := hs
     have hm0 := hm.mid
     replace hs := hs.lrn (ht 4 (twB_spec 9 _ (by kernel_rfl))) rfl rfl
     replace hs := hs.lrn (ht 5 (twB_spec 9 _ (by kernel_rfl))) rfl rfl
     have hs0 := hs.bare
     refine st_callV (us := []) hs rfl (.c rfl (.c rfl .n)) rfl Tryz.call137 (.c .z .n) (kinds1_ok _ _ (recHead r last) g3 _ (hs.mem.del .z)) rfl ?_; clear hs; rintro _ _ a w ⟨rfl, rfl⟩ hs; simp only [List.cons_append, List.nil_append] at hs
     exact wpList_nil ⟨rfl, _, _, hs0, (.c (.c .r)), hs, trivial⟩
    ·
     intro a_ w_ R_ rest_ vs45 hm hs ht hx
     have hm0 := hm.mid
     have t6 := ht 6 (twB_spec 9 _ (by kernel_rfl))
     have e6 : _ = some (vs45 6) := t6.val rfl
     replace hs := hs.learn e6
     have hs0 := hs.bare
     refine st_as hs rfl rfl ?_; clear hs; intro a w hs
     exact wpList_nil ⟨rfl, _, _, hs0, (.c .r), hs, rfl⟩
    exact trip_pv (m := 9) .n (fun hm0 hm hx => .n) (by kernel_rfl) (by kernel_rfl) rfl
   clear hs w a; intro a w vs45 hs hf
   replace hs : St _ _ _ _ [blk g3 [.int .i64 (r.k), .int .i64 (r.id), .int .i64 (r.p0), .int .i64 (r.p1), .int .i64 (r.p2), .int .i64 (r.v0), .int .i64 (r.v1), .int .i64 (r.v2), .int .u16 ((((r.a).toNat : Nat) : Int))] 78, blk g34 [.int .u8 ((((BitVec.ofInt 8 r.k).toNat : Nat) : Int))] 5, row (vs45 6) 5 1 ((recHead r last).length) (bytesV (recHead r last))] _ _ := hs
   obtain ⟨e7, q7⟩ := hf 7 (by decide)
   replace e7 : _ = some (vs45 7) := e7.val rfl
   rw [show vs45 7 = (vs45 6) from q7] at e7
   replace hs := hs.learn e7; clear e7 q7
   obtain ⟨e8, q8⟩ := hf 8 (by decide)
   replace e8 : _ = some (vs45 8) := e8.val rfl
   rw [show vs45 8 = .int .i64 (0) from q8] at e8
   replace hs := hs.learn e8; clear e8 q8
   generalize vs45 6 = v46 at hs
   clear hf
   refine then_n (hK37 _ _ ?_)
   refine wp_ret ?_
   have hre : recErr r last = 0 := by first | exact recErr_chk (by omega) | exact recErr_rng (by omega) (by omega) | exact recErr_ord (by omega) (by omega) (by omega) | exact recErr_ok (by omega) (by omega) (by omega)
   replace hs := hs.drop (.c (.s .z) (.c .z .n))
   replace hs := hs.rerow .z (m' := (recB r last).length) (xs' := bytesV (recB r last)) (by first | ((first | rw [recB_all hre (by omega)] | rw [recB_some hre (by omega)] | rw [recB_none hre (by omega)]) <;> simp only [List.length_append]; done) | ((first | rw [recB_all hre (by omega)] | rw [recB_some hre (by omega), recSome_z (by omega)] | rw [recB_some hre (by omega), recSome_n (by omega)] | rw [recB_none hre (by omega)]) <;> simp only [List.length_append, List.length_cons, List.length_nil, recAll] <;> omega)) (by first | ((first | rw [recB_all hre (by omega)] | rw [recB_some hre (by omega)] | rw [recB_none hre (by omega)]) <;> rfl) | ((first | rw [recB_all hre (by omega)] | rw [recB_some hre (by omega), recSome_z (by omega)] | rw [recB_some hre (by omega), recSome_n (by omega)] | rw [recB_none hre (by omega)]) <;> simp only [recAll, bytesV, List.map_append, List.map_cons, List.map_nil, List.append_assoc, List.cons_append, List.nil_append] <;> rfl))
   exact fin2 hs rfl rfl rfl ⟨_, congrArg (fun z : Nat => Value.tuple #[v46, .int .i64 (z : Int)]) hre.symm, rfl⟩
  replace hs := hs.sub (F' := [(7, v35), (2, .pointer (some ⟨g3, 0, none⟩))]) (.c rfl (.c rfl .n))
  refine wp_drawG (M0 := [blk g3 [.int .i64 (r.k), .int .i64 (r.id), .int .i64 (r.p0), .int .i64 (r.p1), .int .i64 (r.p2), .int .i64 (r.v0), .int .i64 (r.v1), .int .i64 (r.v2), .int .u16 ((((r.a).toNat : Nat) : Int))] 78, blk g34 [.int .u8 ((((BitVec.ofInt 8 r.k).toNat : Nat) : Int))] 5]) (Ds := [Pv 0 (.agg #[.func (.func 139) #[] #[], .func (.func 140) #[] #[], .func (.func 141) #[] #[], .func (.func 142) #[] #[], .func (.func 137) #[] #[], .func (.func 138) #[] #[], .func (.func 139) #[] #[], .func (.func 140) #[] #[]]), Pv 1 (.pointer (some ⟨g3, 0, none⟩)), Pv 2 (.int .i64 (3)), Pv 3 (.agg #[.func (.func 139) #[] #[], .func (.func 140) #[] #[]]), Pv 4 (.func (.func 139) #[] #[]), Pv 5 v35, ⟨[row v35 5 1 ((recHead r last).length) (bytesV (recHead r last))], [], [], fun vs47 => True, fun vs47 => [row (vs47 6) 5 1 (((recHead r last).length) + (recAll r).length) (bytesV ((recHead r last) ++ recAll r))], none⟩, ⟨[], [], [6], fun vs47 => vs47 7 = (vs47 6), fun vs47 => [], none⟩, Pv 8 (.int .i64 (0))]) (by kernel_rfl) hs rfl (.c (.s (.s .z)) .n) (by kernel_rfl) (by kernel_rfl) (by kernel_rfl) ?_ ?_
  ·
   refine (.c ?_ (.c ?_ (.c ?_ (.c ?_ (.c ?_ (.c ?_ (.c ?_ (.c ?_ (.c ?_ .n)))))))))
   ·
    intro a_ w_ R_ rest_ vs47 hm hs ht hx
    have hm0 := hm.mid
    have hs0 := hs.bare
    refine st_callP (v := .agg #[.func (.func 139) #[] #[], .func (.func 140) #[] #[], .func (.func 141) #[] #[], .func (.func 142) #[] #[], .func (.func 137) #[] #[], .func (.func 138) #[] #[], .func (.func 139) #[] #[], .func (.func 140) #[] #[]]) hs .n Tryz.call94 (kinds_ok _) rfl ?_; clear hs; intro a w hs
    exact wpList_nil ⟨rfl, _, _, hs0, .r, hs, rfl⟩
   · exact trip_pv (m := 9) .n (fun hm0 hm hx => .n) (by kernel_rfl) (by kernel_rfl) rfl
   ·
    intro a_ w_ R_ rest_ vs47 hm hs ht hx
    have hm0 := hm.mid
    replace hs := hs.lrn (ht 1 (twB_spec 9 _ (by kernel_rfl))) rfl rfl
    have hs0 := hs.bare
    refine st_ldE hs rfl (hm0.del .z) .z Tryz.isAgg3 rfl ?_; clear hs; intro a w hs
    replace hs := hs.recell (v' := .int .i64 (3)) (Option.some.inj (congrArg (fun z => some (Value.int .i64 z)) hk38))
    exact wpList_nil ⟨rfl, _, _, hs0, (.c .r), hs, rfl⟩
   · exact trip_pv (m := 9) (.c (k := 0) (by kernel_rfl) rfl rfl (.c (k := 2) (by kernel_rfl) rfl rfl .n)) (fun hm0 hm hx => .n) (by kernel_rfl) (by kernel_rfl) rfl
   · exact trip_pv (m := 9) (.c (k := 3) (by kernel_rfl) rfl rfl .n) (fun hm0 hm hx => .n) (by kernel_rfl) (by kernel_rfl) rfl
   · exact trip_pv (m := 9) .n (fun hm0 hm hx => .n) (by kernel_rfl) (by kernel_rfl) rfl
   ·
    intro a_ w_ R_ rest_ vs47 hm hs ht hx
    replace hs : St _ _ _ (feet [row v35 5 1 ((recHead r last).length) (bytesV (recHead r last))]) [row v35 5 1 ((recHead r last).length) (bytesV (recHead r last))] _ _ := hs
    have hm0 := hm.mid
    replace hs := hs.lrn (ht 4 (twB_spec 9 _ (by kernel_rfl))) rfl rfl
    replace hs := hs.lrn (ht 5 (twB_spec 9 _ (by kernel_rfl))) rfl rfl
    have hs0 := hs.bare
    refine st_callV (us := []) hs rfl (.c rfl (.c rfl .n)) rfl Tryz.call139 (.c .z .n) (writeAll_ok _ _ (recHead r last) g3 r _ (hs.mem.del .z) (by omega) (hm0.del .z) hw) rfl ?_; clear hs; rintro v48 _ a w rfl hs; simp only [List.cons_append, List.nil_append] at hs
    exact wpList_nil ⟨rfl, _, _, hs0, (.c (.c .r)), hs, trivial⟩
   ·
    intro a_ w_ R_ rest_ vs47 hm hs ht hx
    have hm0 := hm.mid
    have t6 := ht 6 (twB_spec 9 _ (by kernel_rfl))
    have e6 : _ = some (vs47 6) := t6.val rfl
    replace hs := hs.learn e6
    have hs0 := hs.bare
    refine st_as hs rfl rfl ?_; clear hs; intro a w hs
    exact wpList_nil ⟨rfl, _, _, hs0, (.c .r), hs, rfl⟩
   exact trip_pv (m := 9) .n (fun hm0 hm hx => .n) (by kernel_rfl) (by kernel_rfl) rfl
  clear hs w a; intro a w vs47 hs hf
  replace hs : St _ _ _ _ [blk g3 [.int .i64 (r.k), .int .i64 (r.id), .int .i64 (r.p0), .int .i64 (r.p1), .int .i64 (r.p2), .int .i64 (r.v0), .int .i64 (r.v1), .int .i64 (r.v2), .int .u16 ((((r.a).toNat : Nat) : Int))] 78, blk g34 [.int .u8 ((((BitVec.ofInt 8 r.k).toNat : Nat) : Int))] 5, row (vs47 6) 5 1 (((recHead r last).length) + (recAll r).length) (bytesV ((recHead r last) ++ recAll r))] _ _ := hs
  obtain ⟨e7, q7⟩ := hf 7 (by decide)
  replace e7 : _ = some (vs47 7) := e7.val rfl
  rw [show vs47 7 = (vs47 6) from q7] at e7
  replace hs := hs.learn e7; clear e7 q7
  obtain ⟨e8, q8⟩ := hf 8 (by decide)
  replace e8 : _ = some (vs47 8) := e8.val rfl
  rw [show vs47 8 = .int .i64 (0) from q8] at e8
  replace hs := hs.learn e8; clear e8 q8
  generalize vs47 6 = v49 at hs
  clear hf
  refine then_n (hK37 _ _ ?_)
  refine wp_ret ?_
  have hre : recErr r last = 0 := by first | exact recErr_chk (by omega) | exact recErr_rng (by omega) (by omega) | exact recErr_ord (by omega) (by omega) (by omega) | exact recErr_ok (by omega) (by omega) (by omega)
  replace hs := hs.drop (.c (.s .z) (.c .z .n))
  replace hs := hs.rerow .z (m' := (recB r last).length) (xs' := bytesV (recB r last)) (by first | ((first | rw [recB_all hre (by omega)] | rw [recB_some hre (by omega)] | rw [recB_none hre (by omega)]) <;> simp only [List.length_append]; done) | ((first | rw [recB_all hre (by omega)] | rw [recB_some hre (by omega), recSome_z (by omega)] | rw [recB_some hre (by omega), recSome_n (by omega)] | rw [recB_none hre (by omega)]) <;> simp only [List.length_append, List.length_cons, List.length_nil, recAll] <;> omega)) (by first | ((first | rw [recB_all hre (by omega)] | rw [recB_some hre (by omega)] | rw [recB_none hre (by omega)]) <;> rfl) | ((first | rw [recB_all hre (by omega)] | rw [recB_some hre (by omega), recSome_z (by omega)] | rw [recB_some hre (by omega), recSome_n (by omega)] | rw [recB_none hre (by omega)]) <;> simp only [recAll, bytesV, List.map_append, List.map_cons, List.map_nil, List.append_assoc, List.cons_append, List.nil_append] <;> rfl))
  exact fin2 hs rfl rfl rfl ⟨_, congrArg (fun z : Nat => Value.tuple #[v49, .int .i64 (z : Int)]) hre.symm, rfl⟩
end Go.Proofs.YtbioemaipghagaaGreat
