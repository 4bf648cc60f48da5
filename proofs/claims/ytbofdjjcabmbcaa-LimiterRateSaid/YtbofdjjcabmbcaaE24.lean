/- The contracts of the reference. -/
import Derived.Test.YtbofdjjcabmbcaaD24
set_option linter.unusedVariables false
set_option linter.unusedSimpArgs false
set_option maxRecDepth 10000
namespace Go.Proofs
open Go.Aw Wl
theorem taskB_c (n : Int)  : ACalls Try.prog 37 [(AV.int n)] [] (fun v st => v = (AV.bool (decide (0 ≤ n) && decide (n < 16))) ∧ st = []) := by
  refine acalls_body Try.func37 (by kernel_rfl) rfl Try.ntmps37 (le_ rfl) ?_
  rw [Try.results37]
  refine awp_seq ?_
  refine awp_region ?_
  refine st_p (fun _ => by exact y_assign (.plain rfl)) rfl ?_
  refine aops_nil ?_
  refine awp_seq ?_
  refine awp_region ?_
  refine st_p (fun _ => by exact y_move (.plain rfl)) rfl ?_
  refine st_p (fun _ => by exact y_geq (.plain rfl) (.plain rfl)) rfl ?_
  refine st_p (fun _ => by exact y_move (.plain rfl)) rfl ?_
  refine st_g rfl rfl rfl SaysI.out (fun hc _ => by exact y_move (.plain rfl)) rfl ?_
  refine st_g rfl rfl rfl SaysI.out (fun hc _ => by exact y_lss (.opt rfl hc) (.plain rfl)) rfl ?_
  refine st_p (fun _ => by exact y_and (.plain rfl) rfl rfl) rfl ?_
  refine st_p (fun _ => by exact y_assign (.plain rfl)) rfl ?_
  refine aops_nil ?_
  refine awp_ret ?_
  refine retG (.inr rfl) (.cons (.tmp rfl) .nil) (VShift.of1 (AV.Imp.refl _) (.nil _)) ⟨congrArg (fun x : (Bool) => (AV.bool x)) (show _ = (decide (0 ≤ n) && decide (n < 16)) from ?_), rfl⟩
  rfl

theorem waits16_c (l : List W) (t : Int) (hl : l.length ≤ 1000000) : ACalls Try.prog 38 [(AV.sl 5 (List.map encW l)), (AV.int t)] [] (fun v st => v = (AV.bool (findB l t)) ∧ st = []) := by
  refine acalls_body Try.func38 (by kernel_rfl) rfl Try.ntmps38 (le_ rfl) ?_
  rw [Try.results38]
  refine awp_seq ?_
  refine awp_region ?_
  refine st_p (fun _ => by exact y_assign (.plain rfl)) rfl ?_
  refine aops_nil ?_
  refine awp_seq ?_
  refine awp_seq ?_
  refine awp_region ?_
  refine st_p (fun _ => by exact y_assign (.plain rfl)) rfl ?_
  refine aops_nil ?_
  refine awp_block ?_
  refine awp_loop2 (X := Nat) [0, 1] (.cons rfl (.cons rfl .nil)) (fun σ x => ((5, .int (x : Int)) : Nat × AV) :: σ) (fun R x => R) (fun x => x ≤ l.length ∧ (∀ i (h : i < l.length), i < x → l[i].task ≠ t)) (fun x => l.length - x) 0 (by exact Weak.of2 (by (repeat (first | exact .nil _ | refine .cons rfl (by first | exact AV.Imp.refl _ | exact Sl.imp | exact AV.Imp.agg RowOf.imp | exact AV.Imp.grow_sl | exact AV.Imp.nil_grow | exact AV.Imp.full_grow | exact AV.Imp.own_grow | exact AV.Imp.grow_of rfl | exact AV.Imp.sl_of rfl | exact AV.Imp.int_of (by omega) | exact AV.Imp.of_eq (by first | omega | simpa)) ?_)); done) (by (repeat (first | exact .refl _ | exact .nil _ | apply ItLe2.cons (by first | exact .here | exact k1 | exact k2 | exact k3 | exact k4 | exact k5 | exact k6 | exact k7 | exact k8 | exact k9 | exact k10 | exact k11 | exact k12 | exact k13) | apply ItLe2.cells (by first | exact .here | exact k1 | exact k2 | exact k3 | exact k4 | exact k5 | exact k6 | exact k7 | exact k8 | exact k9 | exact k10 | exact k11 | exact k12 | exact k13) (by repeat (first | exact .nil | refine .cons (by first | exact AV.Imp.refl _ | exact Sl.imp | exact AV.Imp.agg RowOf.imp | exact AV.Imp.grow_sl | exact AV.Imp.nil_grow | exact AV.Imp.full_grow | exact AV.Imp.own_grow | exact AV.Imp.grow_of rfl | exact AV.Imp.sl_of rfl | exact AV.Imp.int_of (by omega) | exact AV.Imp.of_eq (by first | omega | simpa)) ?_)) | apply ItLe2.tail0)); done)) ⟨Nat.zero_le _, by omega⟩ ?_
  rintro k ⟨hk, hinv⟩
  refine awp_seq ?_
  refine awp_seq ?_
  refine awp_region ?_
  refine st_p (fun _ => by exact y_move (.plain rfl)) rfl ?_
  refine st_p (fun _ => by exact y_move (.plain rfl)) rfl ?_
  first | refine st_p (fun _ => by exact y_lenN (.plain rfl)) rfl ?_ | refine st_p (fun _ => by exact y_len (.plain rfl)) rfl ?_ | refine st_p (fun _ => by exact y_lenArr (.plain rfl)) rfl ?_
  refine st_p (fun _ => by exact y_lss (.plain rfl) (.plain rfl)) rfl ?_
  refine aops_nil ?_
  refine awp_cond rfl (fun h1 => ?_) (fun h1 => ?_)
  · skip
    try simp only [decide_eq_true_eq, decide_eq_false_iff_not, Bool.not_eq_true', Bool.not_eq_false', Bool.not_eq_true, Bool.not_eq_false, List.length_map, Int.ofNat_lt, Int.ofNat_le, Bool.or_eq_true, Bool.and_eq_true, Bool.or_eq_false_iff, Bool.and_eq_false_iff] at h1
    refine awp_skip ?_
    refine awp_seq ?_
    refine awp_block ?_
    refine awp_seq ?_
    refine awp_region ?_
    refine st_p (fun _ => by exact y_move (.plain rfl)) rfl ?_
    refine st_p (fun _ => by exact y_move (.plain rfl)) rfl ?_
    first | refine st_p (fun _ => by exact y_indexMap (.plain rfl) (.plain rfl) rfl (by refine ⟨?_, ?_⟩; (first | omega | (simp; omega) | (simp at hc; omega) | (simp at hc ⊢; omega) | (simp; done)); rfl)) rfl ?_ | refine st_p (fun _ => by exact y_indexT (.plain rfl) (.plain rfl) (by first | omega | (simp; omega) | (simp at hc; omega) | (simp at hc ⊢; omega) | (simp; done)) (by first | omega | (simp; omega) | (simp at hc; omega) | (simp at hc ⊢; omega) | (simp; done))) rfl ?_ | refine st_p (fun _ => by exact y_index (.plain rfl) (.plain rfl) (by omega) rfl) rfl ?_ | refine st_p (fun _ => by exact y_indexArr (.plain rfl) (.plain rfl) rfl (by first | omega | (simp; omega) | (simp at hc; omega) | (simp at hc ⊢; omega) | (simp; done))) rfl ?_
    refine st_p (fun _ => by exact y_fieldE (.plain rfl) (le_ rfl)) rfl ?_
    refine st_p (fun _ => by exact y_loadE (.plain rfl) rfl) rfl ?_
    refine st_p (fun _ => by exact y_move (.plain rfl)) rfl ?_
    refine st_p (fun _ => by exact y_eql (.plain rfl) (.plain rfl)) rfl ?_
    refine aops_nil ?_
    refine awp_cond rfl (fun h2 => ?_) (fun h2 => ?_)
    · skip
      try simp only [decide_eq_true_eq, decide_eq_false_iff_not, Bool.not_eq_true', Bool.not_eq_false', Bool.not_eq_true, Bool.not_eq_false, List.length_map, Int.ofNat_lt, Int.ofNat_le, Bool.or_eq_true, Bool.and_eq_true, Bool.or_eq_false_iff, Bool.and_eq_false_iff] at h2
      refine awp_seq ?_
      refine awp_region ?_
      refine st_p (fun _ => by exact y_assign (.plain rfl)) rfl ?_
      refine aops_nil ?_
      refine awp_ret ?_
      refine retG (.inr rfl) (.cons (.tmp rfl) .nil) (VShift.of1 (AV.Imp.refl _) (.nil _)) ⟨congrArg (fun x : (Bool) => (AV.bool x)) (show _ = (findB l t) from ?_), rfl⟩
      simp only [findB, find_at l t k h1 h2 hinv, Option.isSome_some]
    · skip
      try simp only [decide_eq_true_eq, decide_eq_false_iff_not, Bool.not_eq_true', Bool.not_eq_false', Bool.not_eq_true, Bool.not_eq_false, List.length_map, Int.ofNat_lt, Int.ofNat_le, Bool.or_eq_true, Bool.and_eq_true, Bool.or_eq_false_iff, Bool.and_eq_false_iff] at h2
      refine awp_skip ?_
      refine awp_region ?_
      refine st_p (fun _ => by exact y_move (.plain rfl)) rfl ?_
      refine st_p (fun _ => by exact y_add (.plain rfl) (.plain rfl) (by first | omega | (simp; omega) | (simp at hc; omega) | (simp at hc ⊢; omega) | (simp; done))) rfl ?_
      refine st_p (fun _ => by exact y_assign (.plain rfl)) rfl ?_
      refine aops_nil ?_
      refine ⟨k + 1, ?_, ?_, Weak.of2 (by (repeat (first | exact .nil _ | refine .cons rfl (by first | exact AV.Imp.refl _ | exact Sl.imp | exact AV.Imp.agg RowOf.imp | exact AV.Imp.grow_sl | exact AV.Imp.nil_grow | exact AV.Imp.full_grow | exact AV.Imp.own_grow | exact AV.Imp.grow_of rfl | exact AV.Imp.sl_of rfl | exact AV.Imp.int_of (by omega) | exact AV.Imp.of_eq (by first | omega | simpa)) ?_)); done) (by (repeat (first | exact .refl _ | exact .nil _ | apply ItLe2.cons (by first | exact .here | exact k1 | exact k2 | exact k3 | exact k4 | exact k5 | exact k6 | exact k7 | exact k8 | exact k9 | exact k10 | exact k11 | exact k12 | exact k13) | apply ItLe2.cells (by first | exact .here | exact k1 | exact k2 | exact k3 | exact k4 | exact k5 | exact k6 | exact k7 | exact k8 | exact k9 | exact k10 | exact k11 | exact k12 | exact k13) (by repeat (first | exact .nil | refine .cons (by first | exact AV.Imp.refl _ | exact Sl.imp | exact AV.Imp.agg RowOf.imp | exact AV.Imp.grow_sl | exact AV.Imp.nil_grow | exact AV.Imp.full_grow | exact AV.Imp.own_grow | exact AV.Imp.grow_of rfl | exact AV.Imp.sl_of rfl | exact AV.Imp.int_of (by omega) | exact AV.Imp.of_eq (by first | omega | simpa)) ?_)) | apply ItLe2.tail0)); done)⟩
      · refine ⟨by omega, ?_⟩
        intro i hi hik
        by_cases e : i = k
        · subst e; exact h2
        · exact hinv i hi (by omega)
      · omega
  · skip
    try simp only [decide_eq_true_eq, decide_eq_false_iff_not, Bool.not_eq_true', Bool.not_eq_false', Bool.not_eq_true, Bool.not_eq_false, List.length_map, Int.ofNat_lt, Int.ofNat_le, Bool.or_eq_true, Bool.and_eq_true, Bool.or_eq_false_iff, Bool.and_eq_false_iff] at h1
    refine awp_exit ?_
    refine awp_seq ?_
    refine awp_region ?_
    refine st_p (fun _ => by exact y_assign (.plain rfl)) rfl ?_
    refine aops_nil ?_
    refine awp_ret ?_
    refine retG (.inr rfl) (.cons (.tmp rfl) .nil) (VShift.of1 (AV.Imp.refl _) (.nil _)) ⟨congrArg (fun x : (Bool) => (AV.bool x)) (show _ = (findB l t) from ?_), rfl⟩
    simp only [findB, find_no l t (fun i hi => hinv i hi (by omega)), Option.isSome_none]

theorem without_c (l : List W) (t : Int) (hl : l.length ≤ 1000000) : ACalls Try.prog 47 [(AV.sl 5 (List.map encW l)), (AV.int t)] [] (fun v st => v = (AV.sl 5 (List.map encW (remove l t))) ∧ st = []) := by
  refine acalls_body Try.func47 (by kernel_rfl) rfl Try.ntmps47 (le_ rfl) ?_
  rw [Try.results47]
  refine awp_seq ?_
  refine awp_region ?_
  refine st_p (fun _ => by exact y_assign (.plain rfl)) rfl ?_
  refine aops_nil ?_
  refine awp_seq ?_
  refine awp_region ?_
  refine st_p (fun _ => by exact y_buildSlice .nil rfl (le_ rfl)) rfl ?_
  refine st_p (fun _ => by exact y_assign (.plain rfl)) rfl ?_
  refine aops_nil ?_
  refine awp_seq ?_
  refine awp_seq ?_
  refine awp_region ?_
  refine st_p (fun _ => by exact y_assign (.plain rfl)) rfl ?_
  refine aops_nil ?_
  refine awp_block ?_
  refine awp_loop2 (X := Nat × Option Nat) [0, 1] (.cons rfl (.cons rfl .nil)) (fun σ x => ((5, .grow 5 x.2 ((remove (l.take x.1) t).map encW)) : Nat × AV) :: ((6, .int (x.1 : Int)) : Nat × AV) :: σ) (fun R x => .tail x.2 :: R) (fun x => x.1 ≤ l.length ∧ (True)) (fun x => l.length - x.1) (0, none) (by exact Weak.of2 (by (repeat (first | exact .nil _ | refine .cons rfl (by first | exact AV.Imp.refl _ | exact AV.Imp.grow_of (by rw [remove_t l t k h1 h2]) | exact AV.Imp.grow_of (by rw [remove_f l t k h1 h2]) | exact Sl.imp | exact AV.Imp.agg RowOf.imp | exact AV.Imp.grow_sl | exact AV.Imp.nil_grow | exact AV.Imp.full_grow | exact AV.Imp.own_grow | exact AV.Imp.grow_of rfl | exact AV.Imp.sl_of rfl | exact AV.Imp.int_of (by omega) | exact AV.Imp.of_eq (by first | omega | simpa)) ?_)); done) (by (repeat (first | exact .refl _ | exact .nil _ | apply ItLe2.cons (by first | exact .here | exact k1 | exact k2 | exact k3 | exact k4 | exact k5 | exact k6 | exact k7 | exact k8 | exact k9 | exact k10 | exact k11 | exact k12 | exact k13) | apply ItLe2.cells (by first | exact .here | exact k1 | exact k2 | exact k3 | exact k4 | exact k5 | exact k6 | exact k7 | exact k8 | exact k9 | exact k10 | exact k11 | exact k12 | exact k13) (by repeat (first | exact .nil | refine .cons (by first | exact AV.Imp.refl _ | exact AV.Imp.grow_of (by rw [remove_t l t k h1 h2]) | exact AV.Imp.grow_of (by rw [remove_f l t k h1 h2]) | exact Sl.imp | exact AV.Imp.agg RowOf.imp | exact AV.Imp.grow_sl | exact AV.Imp.nil_grow | exact AV.Imp.full_grow | exact AV.Imp.own_grow | exact AV.Imp.grow_of rfl | exact AV.Imp.sl_of rfl | exact AV.Imp.int_of (by omega) | exact AV.Imp.of_eq (by first | omega | simpa)) ?_)) | apply ItLe2.tail0)); done)) ⟨Nat.zero_le _, trivial⟩ ?_
  rintro ⟨k, tok⟩ ⟨hk, hinv⟩
  simp only at hk
  try simp only at hinv
  dsimp only
  refine awp_seq ?_
  refine awp_seq ?_
  refine awp_region ?_
  refine st_p (fun _ => by exact y_move (.plain rfl)) rfl ?_
  refine st_p (fun _ => by exact y_move (.plain rfl)) rfl ?_
  first | refine st_p (fun _ => by exact y_lenN (.plain rfl)) rfl ?_ | refine st_p (fun _ => by exact y_len (.plain rfl)) rfl ?_ | refine st_p (fun _ => by exact y_lenArr (.plain rfl)) rfl ?_
  refine st_p (fun _ => by exact y_lss (.plain rfl) (.plain rfl)) rfl ?_
  refine aops_nil ?_
  refine awp_cond rfl (fun h1 => ?_) (fun h1 => ?_)
  · skip
    try simp only [decide_eq_true_eq, decide_eq_false_iff_not, Bool.not_eq_true', Bool.not_eq_false', Bool.not_eq_true, Bool.not_eq_false, List.length_map, Int.ofNat_lt, Int.ofNat_le, Bool.or_eq_true, Bool.and_eq_true, Bool.or_eq_false_iff, Bool.and_eq_false_iff] at h1
    refine awp_skip ?_
    refine awp_seq ?_
    refine awp_block ?_
    refine awp_seq ?_
    refine awp_region ?_
    refine st_p (fun _ => by exact y_move (.plain rfl)) rfl ?_
    refine st_p (fun _ => by exact y_move (.plain rfl)) rfl ?_
    first | refine st_p (fun _ => by exact y_indexMap (.plain rfl) (.plain rfl) rfl (by refine ⟨?_, ?_⟩; (first | omega | (simp; omega) | (simp at hc; omega) | (simp at hc ⊢; omega) | (simp; done)); rfl)) rfl ?_ | refine st_p (fun _ => by exact y_indexT (.plain rfl) (.plain rfl) (by first | omega | (simp; omega) | (simp at hc; omega) | (simp at hc ⊢; omega) | (simp; done)) (by first | omega | (simp; omega) | (simp at hc; omega) | (simp at hc ⊢; omega) | (simp; done))) rfl ?_ | refine st_p (fun _ => by exact y_index (.plain rfl) (.plain rfl) (by omega) rfl) rfl ?_ | refine st_p (fun _ => by exact y_indexArr (.plain rfl) (.plain rfl) rfl (by first | omega | (simp; omega) | (simp at hc; omega) | (simp at hc ⊢; omega) | (simp; done))) rfl ?_
    refine st_p (fun _ => by exact y_fieldE (.plain rfl) (le_ rfl)) rfl ?_
    refine st_p (fun _ => by exact y_loadE (.plain rfl) rfl) rfl ?_
    refine st_p (fun _ => by exact y_move (.plain rfl)) rfl ?_
    refine st_p (fun _ => by exact y_neq (.plain rfl) (.plain rfl)) rfl ?_
    refine aops_nil ?_
    refine awp_cond rfl (fun h2 => ?_) (fun h2 => ?_)
    · skip
      try simp only [decide_eq_true_eq, decide_eq_false_iff_not, Bool.not_eq_true', Bool.not_eq_false', Bool.not_eq_true, Bool.not_eq_false, List.length_map, Int.ofNat_lt, Int.ofNat_le, Bool.or_eq_true, Bool.and_eq_true, Bool.or_eq_false_iff, Bool.and_eq_false_iff] at h2
      refine awp_region ?_
      have hkl := remove_len (l.take k) t
      rw [List.length_take] at hkl
      refine st_p (fun _ => by exact y_move (.plain rfl)) rfl ?_
      refine st_p (fun _ => by exact y_move (.plain rfl)) rfl ?_
      refine st_p (fun _ => by exact y_move (.plain rfl)) rfl ?_
      first | refine st_p (fun _ => by exact y_indexMap (.plain rfl) (.plain rfl) rfl (by refine ⟨?_, ?_⟩; (first | omega | (simp; omega) | (simp at hc; omega) | (simp at hc ⊢; omega) | (simp; done)); rfl)) rfl ?_ | refine st_p (fun _ => by exact y_indexT (.plain rfl) (.plain rfl) (by first | omega | (simp; omega) | (simp at hc; omega) | (simp at hc ⊢; omega) | (simp; done)) (by first | omega | (simp; omega) | (simp at hc; omega) | (simp at hc ⊢; omega) | (simp; done))) rfl ?_ | refine st_p (fun _ => by exact y_index (.plain rfl) (.plain rfl) (by omega) rfl) rfl ?_ | refine st_p (fun _ => by exact y_indexArr (.plain rfl) (.plain rfl) rfl (by first | omega | (simp; omega) | (simp at hc; omega) | (simp at hc ⊢; omega) | (simp; done))) rfl ?_
      first | refine st_p (fun _ => by exact y_loadEW (.plain rfl) (by rfl)) rfl ?_ | refine st_p (fun _ => by exact y_loadEAggN (cs' := [_, _, _, _, _]) (.plain rfl) (le_ rfl) rfl) rfl ?_
      refine st_p (fun _ => by exact y_buildSlice (.cons (.plain rfl) inferInstance (by rfl) .nil) rfl (le_ rfl)) rfl ?_
      first | refine st_append (by rfl) (.plain rfl) (.plain rfl) (by first | (simp; try omega) | omega) rfl fun t1 => ?_ | refine st_appendT (by rfl) (.plain rfl) (.plain rfl) (by first | exact .here | exact k1 | exact k2 | exact k3 | exact k4 | exact k5 | exact k6 | exact k7 | exact k8 | exact k9 | exact k10 | exact k11 | exact k12 | exact k13) (by first | (simp; try omega) | omega) rfl fun t1 => ?_ | refine st_append0 (by rfl) (.plain rfl) (.plain rfl) (by first | (simp; try omega) | omega) rfl fun t1 => ?_ | refine st_append0 (by rfl) (.imp (.plain rfl) AV.Imp.nil_grow) (.plain rfl) (by first | (simp; try omega) | omega) rfl fun t1 => ?_ | refine st_append0 (by rfl) (.imp (.plain rfl) AV.Imp.full_grow) (.plain rfl) (by first | (simp; try omega) | omega) rfl fun t1 => ?_ | refine st_appendT (by rfl) (.imp (.plain rfl) AV.Imp.own_grow) (.plain rfl) (by first | exact .here | exact k1 | exact k2 | exact k3 | exact k4 | exact k5 | exact k6 | exact k7 | exact k8 | exact k9 | exact k10 | exact k11 | exact k12 | exact k13) (by first | (simp; try omega) | omega) rfl fun t1 => ?_
      refine st_p (fun _ => by exact y_assign (.plain rfl)) rfl ?_
      refine aops_nil ?_
      refine awp_region ?_
      refine st_p (fun _ => by exact y_move (.plain rfl)) rfl ?_
      refine st_p (fun _ => by exact y_add (.plain rfl) (.plain rfl) (by first | omega | (simp; omega) | (simp at hc; omega) | (simp at hc ⊢; omega) | (simp; done))) rfl ?_
      refine st_p (fun _ => by exact y_assign (.plain rfl)) rfl ?_
      refine aops_nil ?_
      refine ⟨(k + 1, _), ?_, ?_, Weak.of2 (by (repeat (first | exact .nil _ | refine .cons rfl (by first | exact AV.Imp.refl _ | exact AV.Imp.grow_of (by rw [remove_t l t k h1 h2]) | exact AV.Imp.grow_of (by rw [remove_f l t k h1 h2]) | exact Sl.imp | exact AV.Imp.agg RowOf.imp | exact AV.Imp.grow_sl | exact AV.Imp.nil_grow | exact AV.Imp.full_grow | exact AV.Imp.own_grow | exact AV.Imp.grow_of rfl | exact AV.Imp.sl_of rfl | exact AV.Imp.int_of (by omega) | exact AV.Imp.of_eq (by first | omega | simpa)) ?_)); done) (by (repeat (first | exact .refl _ | exact .nil _ | apply ItLe2.cons (by first | exact .here | exact k1 | exact k2 | exact k3 | exact k4 | exact k5 | exact k6 | exact k7 | exact k8 | exact k9 | exact k10 | exact k11 | exact k12 | exact k13) | apply ItLe2.cells (by first | exact .here | exact k1 | exact k2 | exact k3 | exact k4 | exact k5 | exact k6 | exact k7 | exact k8 | exact k9 | exact k10 | exact k11 | exact k12 | exact k13) (by repeat (first | exact .nil | refine .cons (by first | exact AV.Imp.refl _ | exact AV.Imp.grow_of (by rw [remove_t l t k h1 h2]) | exact AV.Imp.grow_of (by rw [remove_f l t k h1 h2]) | exact Sl.imp | exact AV.Imp.agg RowOf.imp | exact AV.Imp.grow_sl | exact AV.Imp.nil_grow | exact AV.Imp.full_grow | exact AV.Imp.own_grow | exact AV.Imp.grow_of rfl | exact AV.Imp.sl_of rfl | exact AV.Imp.int_of (by omega) | exact AV.Imp.of_eq (by first | omega | simpa)) ?_)) | apply ItLe2.tail0)); done)⟩
      · exact ⟨by show k + 1 ≤ _; omega, trivial⟩
      · show l.length - (k + 1) < l.length - k; omega
    · skip
      try simp only [decide_eq_true_eq, decide_eq_false_iff_not, Bool.not_eq_true', Bool.not_eq_false', Bool.not_eq_true, Bool.not_eq_false, List.length_map, Int.ofNat_lt, Int.ofNat_le, Bool.or_eq_true, Bool.and_eq_true, Bool.or_eq_false_iff, Bool.and_eq_false_iff] at h2
      refine awp_skip ?_
      refine awp_region ?_
      refine st_p (fun _ => by exact y_move (.plain rfl)) rfl ?_
      refine st_p (fun _ => by exact y_add (.plain rfl) (.plain rfl) (by first | omega | (simp; omega) | (simp at hc; omega) | (simp at hc ⊢; omega) | (simp; done))) rfl ?_
      refine st_p (fun _ => by exact y_assign (.plain rfl)) rfl ?_
      refine aops_nil ?_
      refine ⟨(k + 1, _), ?_, ?_, Weak.of2 (by (repeat (first | exact .nil _ | refine .cons rfl (by first | exact AV.Imp.refl _ | exact AV.Imp.grow_of (by rw [remove_t l t k h1 h2]) | exact AV.Imp.grow_of (by rw [remove_f l t k h1 h2]) | exact Sl.imp | exact AV.Imp.agg RowOf.imp | exact AV.Imp.grow_sl | exact AV.Imp.nil_grow | exact AV.Imp.full_grow | exact AV.Imp.own_grow | exact AV.Imp.grow_of rfl | exact AV.Imp.sl_of rfl | exact AV.Imp.int_of (by omega) | exact AV.Imp.of_eq (by first | omega | simpa)) ?_)); done) (by (repeat (first | exact .refl _ | exact .nil _ | apply ItLe2.cons (by first | exact .here | exact k1 | exact k2 | exact k3 | exact k4 | exact k5 | exact k6 | exact k7 | exact k8 | exact k9 | exact k10 | exact k11 | exact k12 | exact k13) | apply ItLe2.cells (by first | exact .here | exact k1 | exact k2 | exact k3 | exact k4 | exact k5 | exact k6 | exact k7 | exact k8 | exact k9 | exact k10 | exact k11 | exact k12 | exact k13) (by repeat (first | exact .nil | refine .cons (by first | exact AV.Imp.refl _ | exact AV.Imp.grow_of (by rw [remove_t l t k h1 h2]) | exact AV.Imp.grow_of (by rw [remove_f l t k h1 h2]) | exact Sl.imp | exact AV.Imp.agg RowOf.imp | exact AV.Imp.grow_sl | exact AV.Imp.nil_grow | exact AV.Imp.full_grow | exact AV.Imp.own_grow | exact AV.Imp.grow_of rfl | exact AV.Imp.sl_of rfl | exact AV.Imp.int_of (by omega) | exact AV.Imp.of_eq (by first | omega | simpa)) ?_)) | apply ItLe2.tail0)); done)⟩
      · exact ⟨by show k + 1 ≤ _; omega, trivial⟩
      · show l.length - (k + 1) < l.length - k; omega
  · skip
    try simp only [decide_eq_true_eq, decide_eq_false_iff_not, Bool.not_eq_true', Bool.not_eq_false', Bool.not_eq_true, Bool.not_eq_false, List.length_map, Int.ofNat_lt, Int.ofNat_le, Bool.or_eq_true, Bool.and_eq_true, Bool.or_eq_false_iff, Bool.and_eq_false_iff] at h1
    refine awp_exit ?_
    refine awp_seq ?_
    refine awp_region ?_
    refine st_p (fun _ => by exact y_move (.plain rfl)) rfl ?_
    refine st_p (fun _ => by exact y_assign (.plain rfl)) rfl ?_
    refine aops_nil ?_
    refine awp_ret ?_
    refine retG (.inr rfl) (.cons (.tmp rfl) .nil) (VShift.of1 (Sl.imp (enc := encW)) (.nil _)) ⟨congrArg (fun x : (List (Wl.W)) => (AV.sl 5 (List.map encW x))) (show _ = (remove l t) from ?_), rfl⟩
    obtain rfl : k = l.length := by omega
    rw [List.take_length]

theorem lmchkR_c (o : Ob) (s : St) (hs : smN 1000000 s) : ACalls Try.prog 28 [(AV.agg (encO o)), (AV.agg (encS s))] [] (fun v st => v = (AV.int (Lm.chk o s)) ∧ st = []) := by
  refine acalls_body Try.func28 (by kernel_rfl) rfl Try.ntmps28 (le_ rfl) ?_
  rw [Try.results28]
  refine awp_seq ?_
  refine awp_region ?_
  refine st_n (fun _ => by exact y_box (.plain rfl)) rfl fun n1 => ?_
  refine st_n (fun _ => by exact y_box (.plain rfl)) rfl fun n2 => ?_
  refine st_p (fun _ => by exact y_assign (.plain rfl)) rfl ?_
  refine aops_nil ?_
  refine awp_seq ?_
  refine awp_seq ?_
  refine awp_region ?_
  refine st_p (fun _ => by exact y_loadW (.plain rfl) (by first | exact .here | exact k1 | exact k2 | exact k3 | exact k4 | exact k5 | exact k6 | exact k7 | exact k8 | exact k9 | exact k10 | exact k11 | exact k12 | exact k13) (by rfl)) rfl ?_
  refine aops_call (blt_lt rfl) (.plain rfl) (.cons (.imp (.plain rfl) (AV.Imp.agg (RowOf.imp (enc := encO)))) .nil) (ACalls.here (newR_c _) ?_)
  refine st_p (fun _ => by exact y_move (.plain rfl)) rfl ?_
  refine st_p (fun _ => by exact y_extract (.plain rfl) rfl) rfl ?_
  refine st_p (fun _ => by exact y_extract (.plain rfl) rfl) rfl ?_
  refine st_n (fun _ => by exact y_alloc) rfl fun n3 => ?_
  refine st_s (fun _ => by exact y_storeW (by rfl) rfl (.plain rfl) (.plain rfl) (by first | exact .here | exact u1 | exact u2 | exact u3 | exact u4 | exact u5 | exact u6 | exact u7 | exact u8 | exact u9 | exact u10 | exact u11 | exact u12 | exact u13) (by rfl)) ?_
  refine st_p (fun _ => by exact y_assign (.plain rfl)) rfl ?_
  refine aops_nil ?_
  refine awp_seq ?_
  refine awp_region ?_
  refine st_p (fun _ => by exact y_move (.plain rfl)) rfl ?_
  refine st_p (fun _ => by exact y_neq (.plain rfl) (.plain rfl)) rfl ?_
  refine aops_nil ?_
  refine awp_cond rfl (fun h1 => ?_) (fun h1 => ?_)
  · skip
    try simp only [decide_eq_true_eq, decide_eq_false_iff_not, Bool.not_eq_true', Bool.not_eq_false', Bool.not_eq_true, Bool.not_eq_false, List.length_map, Int.ofNat_lt, Int.ofNat_le, Bool.or_eq_true, Bool.and_eq_true, Bool.or_eq_false_iff, Bool.and_eq_false_iff] at h1
    refine awp_seq ?_
    refine awp_region ?_
    refine st_p (fun _ => by exact y_move (.plain rfl)) rfl ?_
    refine st_p (fun _ => by exact y_assign (.plain rfl)) rfl ?_
    refine aops_nil ?_
    refine awp_ret ?_
    refine retG (.inr rfl) (.cons (.tmp rfl) .nil) (VShift.of1 (AV.Imp.refl _) (.nil _)) ⟨congrArg (fun x : (Int) => (AV.int x)) (show _ = (Lm.chk o s) from ?_), rfl⟩
    rw [Lm.chk, if_pos h1]
  · skip
    try simp only [decide_eq_true_eq, decide_eq_false_iff_not, Bool.not_eq_true', Bool.not_eq_false', Bool.not_eq_true, Bool.not_eq_false, List.length_map, Int.ofNat_lt, Int.ofNat_le, Bool.or_eq_true, Bool.and_eq_true, Bool.or_eq_false_iff, Bool.and_eq_false_iff] at h1
    have hn : ¬ (Lm.new o).2 ≠ 0 := by omega
    have hz := (Lm.new_zero (show (Lm.new o).2 = 0 by omega)).2.1
    refine awp_skip ?_
    refine awp_seq ?_
    refine awp_seq ?_
    have hqq := hs.q
    refine awp_region ?_
    refine st_p (fun _ => by exact y_fieldPtr (.plain rfl)) rfl ?_
    refine st_p (fun _ => by exact y_load (.plain rfl) (by first | exact .here | exact k1 | exact k2 | exact k3 | exact k4 | exact k5 | exact k6 | exact k7 | exact k8 | exact k9 | exact k10 | exact k11 | exact k12 | exact k13) rfl) rfl ?_
    refine st_p (fun _ => by exact y_lss (.plain rfl) (.plain rfl)) rfl ?_
    refine st_p (fun _ => by exact y_move (.plain rfl)) rfl ?_
    refine st_g rfl rfl rfl SaysI.out (fun hc _ => by exact y_fieldPtr (.plain rfl)) rfl ?_
    refine st_g rfl rfl rfl SaysI.out (fun hc _ => by exact y_load (.opt rfl hc) (by first | exact .here | exact k1 | exact k2 | exact k3 | exact k4 | exact k5 | exact k6 | exact k7 | exact k8 | exact k9 | exact k10 | exact k11 | exact k12 | exact k13) rfl) rfl ?_
    refine st_g rfl rfl rfl SaysI.out (fun hc _ => by exact y_fieldPtr (.plain rfl)) rfl ?_
    refine st_g rfl rfl rfl SaysI.out (fun hc _ => by exact y_load (.opt rfl hc) (by first | exact .here | exact k1 | exact k2 | exact k3 | exact k4 | exact k5 | exact k6 | exact k7 | exact k8 | exact k9 | exact k10 | exact k11 | exact k12 | exact k13) rfl) rfl ?_
    refine st_g rfl rfl rfl SaysI.out (fun hc _ => by exact y_gtr (.opt rfl hc) (.opt rfl hc)) rfl ?_
    refine st_p (fun _ => by exact y_or (.plain rfl) rfl rfl) rfl ?_
    refine st_p (fun _ => by exact y_move (.plain rfl)) rfl ?_
    refine st_g rfl rfl rfl SaysI.out (fun hc _ => by exact y_fieldPtr (.plain rfl)) rfl ?_
    refine st_g rfl rfl rfl SaysI.out (fun hc _ => by exact y_load (.opt rfl hc) (by first | exact .here | exact k1 | exact k2 | exact k3 | exact k4 | exact k5 | exact k6 | exact k7 | exact k8 | exact k9 | exact k10 | exact k11 | exact k12 | exact k13) rfl) rfl ?_
    refine st_g rfl rfl rfl SaysI.out (fun hc _ => by exact y_lss (.opt rfl hc) (.plain rfl)) rfl ?_
    refine st_p (fun _ => by exact y_or (.plain rfl) rfl rfl) rfl ?_
    refine st_p (fun _ => by exact y_move (.plain rfl)) rfl ?_
    refine st_g rfl rfl rfl SaysI.out (fun hc _ => by exact y_fieldPtr (.plain rfl)) rfl ?_
    refine st_g rfl rfl rfl SaysI.out (fun hc _ => by exact y_load (.opt rfl hc) (by first | exact .here | exact k1 | exact k2 | exact k3 | exact k4 | exact k5 | exact k6 | exact k7 | exact k8 | exact k9 | exact k10 | exact k11 | exact k12 | exact k13) rfl) rfl ?_
    refine st_g rfl rfl rfl SaysI.out (fun hc _ => by exact y_gtr (.opt rfl hc) (.plain rfl)) rfl ?_
    refine st_p (fun _ => by exact y_or (.plain rfl) rfl rfl) rfl ?_
    refine aops_nil ?_
    refine awp_cond rfl (fun h2 => ?_) (fun h2 => ?_)
    · skip
      try simp only [decide_eq_true_eq, decide_eq_false_iff_not, Bool.not_eq_true', Bool.not_eq_false', Bool.not_eq_true, Bool.not_eq_false, List.length_map, Int.ofNat_lt, Int.ofNat_le, Bool.or_eq_true, Bool.and_eq_true, Bool.or_eq_false_iff, Bool.and_eq_false_iff] at h2
      refine awp_seq ?_
      refine awp_region ?_
      refine st_p (fun _ => by exact y_assign (.plain rfl)) rfl ?_
      refine aops_nil ?_
      refine awp_ret ?_
      refine retG (.inr rfl) (.cons (.tmp rfl) .nil) (VShift.of1 (AV.Imp.refl _) (.nil _)) ⟨congrArg (fun x : (Int) => (AV.int x)) (show _ = (Lm.chk o s) from ?_), rfl⟩
      rw [Lm.chk, if_neg hn, if_pos]
      refine Lm.no_of fun ⟨a, b, c, d⟩ => ?_
      omega
    · skip
      try simp only [decide_eq_true_eq, decide_eq_false_iff_not, Bool.not_eq_true', Bool.not_eq_false', Bool.not_eq_true, Bool.not_eq_false, List.length_map, Int.ofNat_lt, Int.ofNat_le, Bool.or_eq_true, Bool.and_eq_true, Bool.or_eq_false_iff, Bool.and_eq_false_iff] at h2
      refine awp_skip ?_
      refine awp_seq ?_
      refine awp_seq ?_
      refine awp_region ?_
      refine st_p (fun _ => by exact y_assign (.plain rfl)) rfl ?_
      refine aops_nil ?_
      refine awp_block ?_
      refine awp_loop2 (X := Nat) [2, 3] (.cons rfl (.cons rfl .nil)) (fun σ x => ((7, .int (x : Int)) : Nat × AV) :: σ) (fun R x => R) (fun x => x ≤ s.queue.length ∧ (∀ i (h : i < s.queue.length), i < x → (Lm.fit o s.queue[i] = true ∧ valid s.queue[i] = true) ∧ fstB s.queue i = true)) (fun x => s.queue.length - x) 0 (by exact Weak.of2 (by (repeat (first | exact .nil _ | refine .cons rfl (by first | exact AV.Imp.refl _ | exact Sl.imp | exact AV.Imp.agg RowOf.imp | exact AV.Imp.grow_sl | exact AV.Imp.nil_grow | exact AV.Imp.full_grow | exact AV.Imp.own_grow | exact AV.Imp.grow_of rfl | exact AV.Imp.sl_of rfl | exact AV.Imp.int_of (by omega) | exact AV.Imp.of_eq (by first | omega | simpa)) ?_)); done) (by (repeat (first | exact .refl _ | exact .nil _ | apply ItLe2.cons (by first | exact .here | exact k1 | exact k2 | exact k3 | exact k4 | exact k5 | exact k6 | exact k7 | exact k8 | exact k9 | exact k10 | exact k11 | exact k12 | exact k13) | apply ItLe2.cells (by first | exact .here | exact k1 | exact k2 | exact k3 | exact k4 | exact k5 | exact k6 | exact k7 | exact k8 | exact k9 | exact k10 | exact k11 | exact k12 | exact k13) (by repeat (first | exact .nil | refine .cons (by first | exact AV.Imp.refl _ | exact Sl.imp | exact AV.Imp.agg RowOf.imp | exact AV.Imp.grow_sl | exact AV.Imp.nil_grow | exact AV.Imp.full_grow | exact AV.Imp.own_grow | exact AV.Imp.grow_of rfl | exact AV.Imp.sl_of rfl | exact AV.Imp.int_of (by omega) | exact AV.Imp.of_eq (by first | omega | simpa)) ?_)) | apply ItLe2.tail0)); done)) ⟨Nat.zero_le _, by omega⟩ ?_
      rintro k ⟨hk, hinv⟩
      refine awp_seq ?_
      refine awp_seq ?_
      refine awp_region ?_
      refine st_p (fun _ => by exact y_move (.plain rfl)) rfl ?_
      refine st_p (fun _ => by exact y_fieldPtr (.plain rfl)) rfl ?_
      refine st_p (fun _ => by exact y_load (.plain rfl) (by first | exact .here | exact k1 | exact k2 | exact k3 | exact k4 | exact k5 | exact k6 | exact k7 | exact k8 | exact k9 | exact k10 | exact k11 | exact k12 | exact k13) rfl) rfl ?_
      first | refine st_p (fun _ => by exact y_lenN (.plain rfl)) rfl ?_ | refine st_p (fun _ => by exact y_len (.plain rfl)) rfl ?_ | refine st_p (fun _ => by exact y_lenArr (.plain rfl)) rfl ?_
      refine st_p (fun _ => by exact y_lss (.plain rfl) (.plain rfl)) rfl ?_
      refine aops_nil ?_
      refine awp_cond rfl (fun h3 => ?_) (fun h3 => ?_)
      · skip
        try simp only [decide_eq_true_eq, decide_eq_false_iff_not, Bool.not_eq_true', Bool.not_eq_false', Bool.not_eq_true, Bool.not_eq_false, List.length_map, Int.ofNat_lt, Int.ofNat_le, Bool.or_eq_true, Bool.and_eq_true, Bool.or_eq_false_iff, Bool.and_eq_false_iff] at h3
        refine awp_skip ?_
        refine awp_seq ?_
        refine awp_block ?_
        refine awp_seq ?_
        refine awp_region ?_
        refine st_p (fun _ => by exact y_fieldPtr (.plain rfl)) rfl ?_
        refine st_p (fun _ => by exact y_load (.plain rfl) (by first | exact .here | exact k1 | exact k2 | exact k3 | exact k4 | exact k5 | exact k6 | exact k7 | exact k8 | exact k9 | exact k10 | exact k11 | exact k12 | exact k13) rfl) rfl ?_
        refine st_p (fun _ => by exact y_move (.plain rfl)) rfl ?_
        first | refine st_p (fun _ => by exact y_indexMap (.plain rfl) (.plain rfl) rfl (by refine ⟨?_, ?_⟩; (first | omega | (simp; omega) | (simp at hc; omega) | (simp at hc ⊢; omega) | (simp; done)); rfl)) rfl ?_ | refine st_p (fun _ => by exact y_indexT (.plain rfl) (.plain rfl) (by first | omega | (simp; omega) | (simp at hc; omega) | (simp at hc ⊢; omega) | (simp; done)) (by first | omega | (simp; omega) | (simp at hc; omega) | (simp at hc ⊢; omega) | (simp; done))) rfl ?_ | refine st_p (fun _ => by exact y_index (.plain rfl) (.plain rfl) (by omega) rfl) rfl ?_ | refine st_p (fun _ => by exact y_indexArr (.plain rfl) (.plain rfl) rfl (by first | omega | (simp; omega) | (simp at hc; omega) | (simp at hc ⊢; omega) | (simp; done))) rfl ?_
        first | refine st_p (fun _ => by exact y_loadEW (.plain rfl) (by rfl)) rfl ?_ | refine st_p (fun _ => by exact y_loadEAggN (cs' := [_, _, _, _, _]) (.plain rfl) (le_ rfl) rfl) rfl ?_
        refine st_n (fun _ => by exact y_alloc) rfl fun n4 => ?_
        refine st_s (fun _ => by exact y_storeW (by rfl) rfl (.plain rfl) (.plain rfl) (by first | exact .here | exact u1 | exact u2 | exact u3 | exact u4 | exact u5 | exact u6 | exact u7 | exact u8 | exact u9 | exact u10 | exact u11 | exact u12 | exact u13) (by rfl)) ?_
        refine aops_nil ?_
        refine awp_seq ?_
        have hft := Br.fst_find s.queue k (by assumption)
        refine awp_any0 (ks := [.free, .free, .free, .free, .free, .free, .free, .free, .free, .free, .free, .free, .free, .free, .free, .free, .free, .free, .free, .free, .free, .free, .free, .free, .free, .free, .free, .free, .free, .free, .free, .free, .free, .free, .free, .free, .free, .free, .free, .free, .free, .free, .free, .free, .free]) (by kernel_rfl) (fun K => ?_) ?_
        · skip
          refine dr_p (fun _ => by exact y_fieldPtr (.plain rfl)) rfl ?_
          refine dr_p (fun _ => by exact y_load (.plain rfl) (by first | exact .here | exact k1 | exact k2 | exact k3 | exact k4 | exact k5 | exact k6 | exact k7 | exact k8 | exact k9 | exact k10 | exact k11 | exact k12 | exact k13) rfl) rfl ?_
          refine dr_p (fun _ => by exact y_call (.plain rfl) (.cons (.plain rfl) .nil) (ACalls.pure (taskB_c _))) rfl ?_
          refine dr_p (fun _ => by exact y_not (.plain rfl)) rfl ?_
          refine dr_p (fun _ => by exact y_move (.plain rfl)) rfl ?_
          refine dr_g rfl rfl rfl SaysI.out (fun hc _ => by exact y_fieldPtr (.plain rfl)) rfl ?_
          refine dr_g rfl rfl rfl SaysI.out (fun hc _ => by exact y_load (.opt rfl hc) (by first | exact .here | exact k1 | exact k2 | exact k3 | exact k4 | exact k5 | exact k6 | exact k7 | exact k8 | exact k9 | exact k10 | exact k11 | exact k12 | exact k13) rfl) rfl ?_
          refine dr_g rfl rfl rfl SaysI.out (fun hc _ => by exact y_move (.plain rfl)) rfl ?_
          first | refine dr_g rfl rfl rfl SaysI.out (fun hc _ => by exact y_sliceNil (.opt rfl hc) (.opt rfl hc)) rfl ?_ | refine dr_g rfl rfl rfl SaysI.out (fun hc _ => by exact y_sliceRaw (.opt rfl hc) (.opt rfl hc)) rfl ?_ | refine dr_g rfl rfl rfl SaysI.out (fun hc _ => by exact y_sliceHiM (.opt rfl hc) (.opt rfl hc) rfl (by first | omega | (simp; omega) | (simp at hc; omega) | (simp at hc ⊢; omega) | (simp; done))) rfl ?_ | refine dr_g rfl rfl rfl SaysI.out (fun hc _ => by exact y_sliceHi (.opt rfl hc) (.opt rfl hc) rfl (by first | omega | (simp; omega) | (simp at hc; omega) | (simp at hc ⊢; omega) | (simp; done))) rfl ?_
          refine dr_g rfl rfl rfl SaysI.out (fun hc _ => by exact y_fieldPtr (.plain rfl)) rfl ?_
          refine dr_g rfl rfl rfl SaysI.out (fun hc _ => by exact y_load (.opt rfl hc) (by first | exact .here | exact k1 | exact k2 | exact k3 | exact k4 | exact k5 | exact k6 | exact k7 | exact k8 | exact k9 | exact k10 | exact k11 | exact k12 | exact k13) rfl) rfl ?_
          refine dr_g rfl rfl rfl SaysI.out (fun hc _ => by exact y_call (.plain rfl) (.cons (.imp (.opt rfl hc) (Sl.imp (enc := encW))) (.cons (.opt rfl hc) .nil)) (ACalls.pure (waits16_c (s.queue.take k) _ (by simp; omega)))) rfl ?_
          refine dr_p (fun _ => by exact y_or (.plain rfl) rfl rfl) rfl ?_
          refine dr_p (fun _ => by exact y_move (.plain rfl)) rfl ?_
          refine dr_g rfl rfl rfl SaysI.out (fun hc _ => by exact y_fieldPtr (.plain rfl)) rfl ?_
          refine dr_g rfl rfl rfl SaysI.out (fun hc _ => by exact y_load (.opt rfl hc) (by first | exact .here | exact k1 | exact k2 | exact k3 | exact k4 | exact k5 | exact k6 | exact k7 | exact k8 | exact k9 | exact k10 | exact k11 | exact k12 | exact k13) rfl) rfl ?_
          refine dr_g rfl rfl rfl SaysI.out (fun hc _ => by exact y_neq (.opt rfl hc) (.plain rfl)) rfl ?_
          refine dr_p (fun _ => by exact y_or (.plain rfl) rfl rfl) rfl ?_
          refine dr_p (fun _ => by exact y_move (.plain rfl)) rfl ?_
          refine dr_g rfl rfl rfl SaysI.out (fun hc _ => by exact y_fieldPtr (.plain rfl)) rfl ?_
          refine dr_g rfl rfl rfl SaysI.out (fun hc _ => by exact y_load (.opt rfl hc) (by first | exact .here | exact k1 | exact k2 | exact k3 | exact k4 | exact k5 | exact k6 | exact k7 | exact k8 | exact k9 | exact k10 | exact k11 | exact k12 | exact k13) rfl) rfl ?_
          refine dr_g rfl rfl rfl SaysI.out (fun hc _ => by exact y_lss (.opt rfl hc) (.plain rfl)) rfl ?_
          refine dr_p (fun _ => by exact y_or (.plain rfl) rfl rfl) rfl ?_
          refine dr_p (fun _ => by exact y_move (.plain rfl)) rfl ?_
          refine dr_g rfl rfl rfl SaysI.out (fun hc _ => by exact y_fieldPtr (.plain rfl)) rfl ?_
          refine dr_g rfl rfl rfl SaysI.out (fun hc _ => by exact y_load (.opt rfl hc) (by first | exact .here | exact k1 | exact k2 | exact k3 | exact k4 | exact k5 | exact k6 | exact k7 | exact k8 | exact k9 | exact k10 | exact k11 | exact k12 | exact k13) rfl) rfl ?_
          refine dr_g rfl rfl rfl SaysI.out (fun hc _ => by exact y_fieldPtr (.plain rfl)) rfl ?_
          refine dr_g rfl rfl rfl SaysI.out (fun hc _ => by exact y_load (.opt rfl hc) (by first | exact .here | exact k1 | exact k2 | exact k3 | exact k4 | exact k5 | exact k6 | exact k7 | exact k8 | exact k9 | exact k10 | exact k11 | exact k12 | exact k13) rfl) rfl ?_
          refine dr_g rfl rfl rfl SaysI.out (fun hc _ => by exact y_gtr (.opt rfl hc) (.opt rfl hc)) rfl ?_
          refine dr_p (fun _ => by exact y_or (.plain rfl) rfl rfl) rfl ?_
          refine dr_p (fun _ => by exact y_move (.plain rfl)) rfl ?_
          refine dr_g rfl rfl rfl SaysI.out (fun hc _ => by exact y_fieldPtr (.plain rfl)) rfl ?_
          refine dr_g rfl rfl rfl SaysI.out (fun hc _ => by exact y_load (.opt rfl hc) (by first | exact .here | exact k1 | exact k2 | exact k3 | exact k4 | exact k5 | exact k6 | exact k7 | exact k8 | exact k9 | exact k10 | exact k11 | exact k12 | exact k13) rfl) rfl ?_
          refine dr_g rfl rfl rfl SaysI.out (fun hc _ => by exact y_lss (.opt rfl hc) (.plain rfl)) rfl ?_
          refine dr_p (fun _ => by exact y_or (.plain rfl) rfl rfl) rfl ?_
          refine dr_p (fun _ => by exact y_move (.plain rfl)) rfl ?_
          refine dr_g rfl rfl rfl SaysI.out (fun hc _ => by exact y_fieldPtr (.plain rfl)) rfl ?_
          refine dr_g rfl rfl rfl SaysI.out (fun hc _ => by exact y_load (.opt rfl hc) (by first | exact .here | exact k1 | exact k2 | exact k3 | exact k4 | exact k5 | exact k6 | exact k7 | exact k8 | exact k9 | exact k10 | exact k11 | exact k12 | exact k13) rfl) rfl ?_
          refine dr_g rfl rfl rfl SaysI.out (fun hc _ => by exact y_gtr (.opt rfl hc) (.plain rfl)) rfl ?_
          refine dr_p (fun _ => by exact y_or (.plain rfl) rfl rfl) rfl ?_
          refine dr_p (fun _ => by exact y_move (.plain rfl)) rfl ?_
          refine dr_g rfl rfl rfl SaysI.out (fun hc _ => by exact y_fieldPtr (.plain rfl)) rfl ?_
          refine dr_g rfl rfl rfl SaysI.out (fun hc _ => by exact y_load (.opt rfl hc) (by first | exact .here | exact k1 | exact k2 | exact k3 | exact k4 | exact k5 | exact k6 | exact k7 | exact k8 | exact k9 | exact k10 | exact k11 | exact k12 | exact k13) rfl) rfl ?_
          refine dr_g rfl rfl rfl SaysI.out (fun hc _ => by exact y_neq (.opt rfl hc) (.plain rfl)) rfl ?_
          refine dr_p (fun _ => by exact y_or (.plain rfl) rfl rfl) rfl ?_
          refine dr_nil ⟨rfl, ?_⟩
          refine awp_cond rfl (fun h4 => ?_) (fun h4 => ?_)
          · skip
            try simp only [decide_eq_true_eq, decide_eq_false_iff_not, Bool.not_eq_true', Bool.not_eq_false', Bool.not_eq_true, Bool.not_eq_false, List.length_map, Int.ofNat_lt, Int.ofNat_le, Bool.or_eq_true, Bool.and_eq_true, Bool.or_eq_false_iff, Bool.and_eq_false_iff] at h4
            refine awp_seq ?_
            refine awp_region ?_
            refine st_p (fun _ => by exact y_assign (.plain rfl)) rfl ?_
            refine aops_nil ?_
            refine awp_ret ?_
            refine retG (.inr rfl) (.cons (.tmp rfl) .nil) (VShift.of1 (AV.Imp.refl _) (.nil _)) ⟨congrArg (fun x : (Int) => (AV.int x)) (show _ = (Lm.chk o s) from ?_), rfl⟩
            rw [Lm.chk, if_neg hn, if_pos]
            refine Lm.no_ref h3 fun ⟨a, b⟩ => ?_
            rw [Lm.good_iff hz.2] at a
            rw [hft] at b
            simp at b
            simp [b] at h4
            omega
          · skip
            try simp only [decide_eq_true_eq, decide_eq_false_iff_not, Bool.not_eq_true', Bool.not_eq_false', Bool.not_eq_true, Bool.not_eq_false, List.length_map, Int.ofNat_lt, Int.ofNat_le, Bool.or_eq_true, Bool.and_eq_true, Bool.or_eq_false_iff, Bool.and_eq_false_iff] at h4
            have hfit : (Lm.fit o s.queue[k] = true ∧ valid s.queue[k] = true) ∧ fstB s.queue k = true := by
              refine ⟨(Lm.good_iff hz.2).2 (by omega), ?_⟩
              rw [hft, h4.1.1.1.1.1.1.2]; rfl
            refine awp_skip ?_
            refine awp_region ?_
            refine st_p (fun _ => by exact y_move (.plain rfl)) rfl ?_
            refine st_p (fun _ => by exact y_add (.plain rfl) (.plain rfl) (by first | omega | (simp; omega) | (simp at hc; omega) | (simp at hc ⊢; omega) | (simp; done))) rfl ?_
            refine st_p (fun _ => by exact y_assign (.plain rfl)) rfl ?_
            refine aops_nil ?_
            refine ⟨k + 1, ?_, ?_, Weak.of2 (by (repeat (first | exact .nil _ | refine .cons rfl (by first | exact AV.Imp.refl _ | exact Sl.imp | exact AV.Imp.agg RowOf.imp | exact AV.Imp.grow_sl | exact AV.Imp.nil_grow | exact AV.Imp.full_grow | exact AV.Imp.own_grow | exact AV.Imp.grow_of rfl | exact AV.Imp.sl_of rfl | exact AV.Imp.int_of (by omega) | exact AV.Imp.of_eq (by first | omega | simpa)) ?_)); done) (by (repeat (first | exact .refl _ | exact .nil _ | apply ItLe2.cons (by first | exact .here | exact k1 | exact k2 | exact k3 | exact k4 | exact k5 | exact k6 | exact k7 | exact k8 | exact k9 | exact k10 | exact k11 | exact k12 | exact k13) | apply ItLe2.cells (by first | exact .here | exact k1 | exact k2 | exact k3 | exact k4 | exact k5 | exact k6 | exact k7 | exact k8 | exact k9 | exact k10 | exact k11 | exact k12 | exact k13) (by repeat (first | exact .nil | refine .cons (by first | exact AV.Imp.refl _ | exact Sl.imp | exact AV.Imp.agg RowOf.imp | exact AV.Imp.grow_sl | exact AV.Imp.nil_grow | exact AV.Imp.full_grow | exact AV.Imp.own_grow | exact AV.Imp.grow_of rfl | exact AV.Imp.sl_of rfl | exact AV.Imp.int_of (by omega) | exact AV.Imp.of_eq (by first | omega | simpa)) ?_)) | apply ItLe2.tail0)); done)⟩
            · refine ⟨by omega, ?_⟩
              intro i hi hik
              by_cases e : i = k
              · subst e; exact hfit
              · exact hinv i hi (by omega)
            · omega
        · kernel_rfl
      · skip
        try simp only [decide_eq_true_eq, decide_eq_false_iff_not, Bool.not_eq_true', Bool.not_eq_false', Bool.not_eq_true, Bool.not_eq_false, List.length_map, Int.ofNat_lt, Int.ofNat_le, Bool.or_eq_true, Bool.and_eq_true, Bool.or_eq_false_iff, Bool.and_eq_false_iff] at h3
        refine awp_exit ?_
        refine awp_seq ?_
        refine awp_seq ?_
        refine awp_region ?_
        refine st_p (fun _ => by exact y_loadW (.plain rfl) (by first | exact .here | exact k1 | exact k2 | exact k3 | exact k4 | exact k5 | exact k6 | exact k7 | exact k8 | exact k9 | exact k10 | exact k11 | exact k12 | exact k13) (by rfl)) rfl ?_
        refine st_p (fun _ => by exact y_fieldPtr (.plain rfl)) rfl ?_
        refine st_p (fun _ => by exact y_load (.plain rfl) (by first | exact .here | exact k1 | exact k2 | exact k3 | exact k4 | exact k5 | exact k6 | exact k7 | exact k8 | exact k9 | exact k10 | exact k11 | exact k12 | exact k13) rfl) rfl ?_
        refine st_p (fun _ => by exact y_fieldPtr (.plain rfl)) rfl ?_
        refine st_p (fun _ => by exact y_load (.plain rfl) (by first | exact .here | exact k1 | exact k2 | exact k3 | exact k4 | exact k5 | exact k6 | exact k7 | exact k8 | exact k9 | exact k10 | exact k11 | exact k12 | exact k13) rfl) rfl ?_
        refine st_p (fun _ => by exact y_fieldPtr (.plain rfl)) rfl ?_
        refine st_p (fun _ => by exact y_load (.plain rfl) (by first | exact .here | exact k1 | exact k2 | exact k3 | exact k4 | exact k5 | exact k6 | exact k7 | exact k8 | exact k9 | exact k10 | exact k11 | exact k12 | exact k13) rfl) rfl ?_
        refine st_p (fun _ => by exact y_build (out := [_, _, _, _, _, _, _, _, _]) (.cons (.plain rfl) inferInstance rfl (.cons (.plain rfl) inferInstance rfl (.cons (.plain rfl) inferInstance rfl (.cons (.plain rfl) inferInstance rfl .nil)))) rfl rfl) rfl ?_
        refine aops_call (blt_lt rfl) (.plain rfl) (.cons (.imp (.plain rfl) (AV.Imp.agg (RowOf.imp (enc := encS)))) (.cons (.imp (.plain rfl) (AV.Imp.agg (RowOf.imp (enc := encS)))) .nil)) (ACalls.here (same_c s ⟨-1, s.count, s.time, [], s.queue, [], [], false, 0⟩ hs) ?_)
        refine st_p (fun _ => by exact y_not (.plain rfl)) rfl ?_
        refine aops_nil ?_
        refine awp_cond rfl (fun h5 => ?_) (fun h5 => ?_)
        · skip
          try simp only [decide_eq_true_eq, decide_eq_false_iff_not, Bool.not_eq_true', Bool.not_eq_false', Bool.not_eq_true, Bool.not_eq_false, List.length_map, Int.ofNat_lt, Int.ofNat_le, Bool.or_eq_true, Bool.and_eq_true, Bool.or_eq_false_iff, Bool.and_eq_false_iff] at h5
          refine awp_seq ?_
          refine awp_region ?_
          refine st_p (fun _ => by exact y_assign (.plain rfl)) rfl ?_
          refine aops_nil ?_
          refine awp_ret ?_
          refine retG (.inr rfl) (.cons (.tmp rfl) .nil) (VShift.of1 (AV.Imp.refl _) (.nil _)) ⟨congrArg (fun x : (Int) => (AV.int x)) (show _ = (Lm.chk o s) from ?_), rfl⟩
          rw [Lm.chk, if_neg hn, if_pos]
          exact Lm.no_of fun ⟨a, _⟩ => h5 (Lm.same_bare.2 a)
        · skip
          try simp only [decide_eq_true_eq, decide_eq_false_iff_not, Bool.not_eq_true', Bool.not_eq_false', Bool.not_eq_true, Bool.not_eq_false, List.length_map, Int.ofNat_lt, Int.ofNat_le, Bool.or_eq_true, Bool.and_eq_true, Bool.or_eq_false_iff, Bool.and_eq_false_iff] at h5
          refine awp_skip ?_
          refine awp_seq ?_
          refine awp_region ?_
          refine st_p (fun _ => by exact y_assign (.plain rfl)) rfl ?_
          refine aops_nil ?_
          refine awp_ret ?_
          refine retG (.inr rfl) (.cons (.tmp rfl) .nil) (VShift.of1 (AV.Imp.refl _) (.nil _)) ⟨congrArg (fun x : (Int) => (AV.int x)) (show _ = (Lm.chk o s) from ?_), rfl⟩
          rw [Lm.chk, if_neg hn, if_neg]
          rw [Bool.not_eq_false]
          exact Lm.yes_ref (Lm.same_bare.1 h5) (by omega) (by omega) (fun i hi => hinv i hi (by omega))

theorem serveR_c (s : St) (hs : smN 1000000 s) (hb : ∀ k, k ≤ Lm.nS s → 0 ≤ Lm.cnt s.count s.queue k ∧ Lm.cnt s.count s.queue k ≤ 1000) (hv : ∀ w ∈ s.queue, 0 ≤ w.value ∧ w.value ≤ 1000) : ACalls Try.prog 39 [(AV.agg (encS s))] [] (fun v st => v = (AV.tup [(AV.agg (encS (((Lm.serveS s (Lm.nS s), Lm.wk s.queue (Lm.nS s))).1))), (AV.sl 5 (List.map encK (((Lm.serveS s (Lm.nS s), Lm.wk s.queue (Lm.nS s))).2)))]) ∧ st = []) := by
  refine acalls_body Try.func39 (by kernel_rfl) rfl Try.ntmps39 (le_ rfl) ?_
  rw [Try.results39]
  refine awp_seq ?_
  refine awp_region ?_
  refine st_n (fun _ => by exact y_box (.plain rfl)) rfl fun nS => ?_
  refine st_n (fun _ => by exact y_alloc) rfl fun n1 => ?_
  refine st_p (fun _ => by exact y_assign (.plain rfl)) rfl ?_
  refine aops_nil ?_
  refine awp_seq ?_
  refine awp_region ?_
  refine st_p (fun _ => by exact y_assign (.plain rfl)) rfl ?_
  refine aops_nil ?_
  refine awp_seq ?_
  refine awp_block ?_
  refine awp_loop2 (X := Nat × Option Nat) [1, 2] (.cons rfl (.cons rfl .nil)) (fun σ x => ((4, .grow 5 x.2 ((Lm.wk s.queue x.1).map encK)) : Nat × AV) :: σ) (fun R x => .cells nS (encS (Lm.serveS s x.1)) :: .tail x.2 :: R) (fun x => x.1 ≤ s.queue.length ∧ (Lm.nS s = x.1 + Lm.nsv (Lm.cnt s.count s.queue x.1) (s.queue.drop x.1))) (fun x => s.queue.length - x.1) (0, none) (by exact Weak.of2 (by (repeat (first | exact .nil _ | refine .cons rfl (by first | exact AV.Imp.refl _ | exact Sl.imp | exact AV.Imp.agg RowOf.imp | exact AV.Imp.grow_sl | exact AV.Imp.nil_grow | exact AV.Imp.full_grow | exact AV.Imp.own_grow | exact AV.Imp.grow_of rfl | exact AV.Imp.sl_of rfl | exact AV.Imp.int_of (by omega) | exact AV.Imp.of_eq (by first | omega | simpa)) ?_)); done) (by (repeat (first | exact .refl _ | exact .nil _ | apply ItLe2.cons (by first | exact .here | exact k1 | exact k2 | exact k3 | exact k4 | exact k5 | exact k6 | exact k7 | exact k8 | exact k9 | exact k10 | exact k11 | exact k12 | exact k13) | apply ItLe2.cells (by first | exact .here | exact k1 | exact k2 | exact k3 | exact k4 | exact k5 | exact k6 | exact k7 | exact k8 | exact k9 | exact k10 | exact k11 | exact k12 | exact k13) (by repeat (first | exact .nil | refine .cons (by first | exact AV.Imp.refl _ | exact Sl.imp | exact AV.Imp.agg RowOf.imp | exact AV.Imp.grow_sl | exact AV.Imp.nil_grow | exact AV.Imp.full_grow | exact AV.Imp.own_grow | exact AV.Imp.grow_of rfl | exact AV.Imp.sl_of rfl | exact AV.Imp.int_of (by omega) | exact AV.Imp.of_eq (by first | omega | simpa)) ?_)) | apply ItLe2.tail0)); done)) ⟨Nat.zero_le _, (Nat.zero_add _).symm⟩ ?_
  rintro ⟨k, tok⟩ ⟨hk, hns⟩
  simp only at hk hns
  dsimp only
  refine awp_seq ?_
  refine awp_seq ?_
  have hqq := hs.q
  have hsk := Lm.serveS_sm (k := k) hs
  have hsq := hsk.q
  have hbk : 0 ≤ (Lm.serveS s k).count ∧ (Lm.serveS s k).count ≤ 1000 := hb k (by omega)
  refine awp_any0 (ks := [.free, .free, .free, .free, .free, .free, .free, .free, .free, .free, .free, .free, .free, .free]) (by kernel_rfl) (fun K => ?_) ?_
  · skip
    refine dr_p (fun _ => by exact y_fieldPtr (.plain rfl)) rfl ?_
    refine dr_p (fun _ => by exact y_load (.plain rfl) (by first | exact .here | exact k1 | exact k2 | exact k3 | exact k4 | exact k5 | exact k6 | exact k7 | exact k8 | exact k9 | exact k10 | exact k11 | exact k12 | exact k13) rfl) rfl ?_
    first | refine dr_p (fun _ => by exact y_lenN (.plain rfl)) rfl ?_ | refine dr_p (fun _ => by exact y_len (.plain rfl)) rfl ?_ | refine dr_p (fun _ => by exact y_lenArr (.plain rfl)) rfl ?_
    refine dr_p (fun _ => by exact y_gtr (.plain rfl) (.plain rfl)) rfl ?_
    refine dr_p (fun _ => by exact y_move (.plain rfl)) rfl ?_
    refine dr_g rfl rfl rfl SaysI.out (fun hc _ => by exact y_fieldPtr (.plain rfl)) rfl ?_
    refine dr_g rfl rfl rfl SaysI.out (fun hc _ => by exact y_load (.opt rfl hc) (by first | exact .here | exact k1 | exact k2 | exact k3 | exact k4 | exact k5 | exact k6 | exact k7 | exact k8 | exact k9 | exact k10 | exact k11 | exact k12 | exact k13) rfl) rfl ?_
    first | refine dr_g rfl rfl rfl SaysI.out (fun hc _ => by exact y_indexMap (.opt rfl hc) (.plain rfl) rfl (by refine ⟨?_, ?_⟩; (first | omega | (simp; omega) | (simp at hc; omega) | (simp at hc ⊢; omega) | (simp; done)); rfl)) rfl ?_ | refine dr_g rfl rfl rfl SaysI.out (fun hc _ => by exact y_indexT (.opt rfl hc) (.plain rfl) (by first | omega | (simp; omega) | (simp at hc; omega) | (simp at hc ⊢; omega) | (simp; done)) (by first | omega | (simp; omega) | (simp at hc; omega) | (simp at hc ⊢; omega) | (simp; done))) rfl ?_ | refine dr_g rfl rfl rfl SaysI.out (fun hc _ => by exact y_index (.opt rfl hc) (.plain rfl) (by omega) rfl) rfl ?_ | refine dr_g rfl rfl rfl SaysI.out (fun hc _ => by exact y_indexArr (.opt rfl hc) (.plain rfl) rfl (by first | omega | (simp; omega) | (simp at hc; omega) | (simp at hc ⊢; omega) | (simp; done))) rfl ?_
    refine dr_g rfl rfl rfl SaysI.out (fun hc _ => by exact y_fieldE (.opt rfl hc) (le_ rfl)) rfl ?_
    refine dr_g rfl rfl rfl SaysI.out (fun hc _ => by exact y_loadE (.opt rfl hc) rfl) rfl ?_
    refine dr_g rfl rfl rfl SaysI.out (fun hc _ => by exact y_fieldPtr (.plain rfl)) rfl ?_
    refine dr_g rfl rfl rfl SaysI.out (fun hc _ => by exact y_load (.opt rfl hc) (by first | exact .here | exact k1 | exact k2 | exact k3 | exact k4 | exact k5 | exact k6 | exact k7 | exact k8 | exact k9 | exact k10 | exact k11 | exact k12 | exact k13) rfl) rfl ?_
    refine dr_g rfl rfl rfl SaysI.out (fun hc _ => by exact y_leq (.opt rfl hc) (.opt rfl hc)) rfl ?_
    refine dr_p (fun _ => by exact y_and (.plain rfl) rfl rfl) rfl ?_
    refine dr_nil ⟨rfl, ?_⟩
    refine awp_cond rfl (fun h1 => ?_) (fun h1 => ?_)
    · skip
      try simp only [decide_eq_true_eq, decide_eq_false_iff_not, Bool.not_eq_true', Bool.not_eq_false', Bool.not_eq_true, Bool.not_eq_false, List.length_map, Int.ofNat_lt, Int.ofNat_le, Bool.or_eq_true, Bool.and_eq_true, Bool.or_eq_false_iff, Bool.and_eq_false_iff] at h1
      refine awp_skip ?_
      refine awp_block ?_
      refine awp_seq ?_
      have hkq : k < s.queue.length := by
        have := h1.1
        simp [Lm.serveS] at this
        omega
      have hgo : s.queue[k].value ≤ Lm.cnt s.count s.queue k := by
        have := h1.2
        simpa [Lm.serveS, List.getD, hkq] using this
      have hnx := Lm.nsv_go hkq hgo
      have hvk := hv _ (List.getElem_mem hkq)
      have hx0 : ∀ h : 0 < (Lm.serveS s k).queue.length, (Lm.serveS s k).queue[0] = s.queue[k] := fun h => by simp [Lm.serveS]
      have hx1 : (Lm.serveS s k).count - s.queue[k].value = (Lm.serveS s (k + 1)).count := (Lm.cnt_succ _ _ _ hkq).symm
      have hx2 : List.drop 1 (Lm.serveS s k).queue = (Lm.serveS s (k + 1)).queue := by simp [Lm.serveS]
      have hwk := Lm.wk_succ s.queue k hkq
      have hwl := Lm.wk_len s.queue k
      refine awp_anyT (ks := [.free, .read, .free, .read, .free, .free, .free, .free, .free, .write]) [.cells nS _] (by apply Takes.cons (by first | exact .here | exact k1 | exact k2 | exact k3 | exact k4 | exact k5 | exact k6 | exact k7 | exact k8 | exact k9 | exact k10 | exact k11 | exact k12 | exact k13); exact .nil _) (by kernel_rfl) (fun K => ?_) ?_
      · skip
        refine dr_p (fun _ => by exact y_fieldPtr (.plain rfl)) rfl ?_
        refine dr_r (fun _ => by exact y_load (.plain rfl) (by first | exact .here | exact k1 | exact k2 | exact k3 | exact k4 | exact k5 | exact k6 | exact k7 | exact k8 | exact k9 | exact k10 | exact k11 | exact k12 | exact k13) rfl) rfl ?_
        refine dr_p (fun _ => by exact y_fieldPtr (.plain rfl)) rfl ?_
        refine dr_r (fun _ => by exact y_load (.plain rfl) (by first | exact .here | exact k1 | exact k2 | exact k3 | exact k4 | exact k5 | exact k6 | exact k7 | exact k8 | exact k9 | exact k10 | exact k11 | exact k12 | exact k13) rfl) rfl ?_
        first | refine dr_p (fun _ => by exact y_indexMap (.plain rfl) (.plain rfl) rfl (by refine ⟨?_, ?_⟩; (first | omega | (simp; omega) | (simp at hc; omega) | (simp at hc ⊢; omega) | (simp; done)); rfl)) rfl ?_ | refine dr_p (fun _ => by exact y_indexT (.plain rfl) (.plain rfl) (by first | omega | (simp; omega) | (simp at hc; omega) | (simp at hc ⊢; omega) | (simp; done)) (by first | omega | (simp; omega) | (simp at hc; omega) | (simp at hc ⊢; omega) | (simp; done))) rfl ?_ | refine dr_p (fun _ => by exact y_index (.plain rfl) (.plain rfl) (by omega) rfl) rfl ?_ | refine dr_p (fun _ => by exact y_indexArr (.plain rfl) (.plain rfl) rfl (by first | omega | (simp; omega) | (simp at hc; omega) | (simp at hc ⊢; omega) | (simp; done))) rfl ?_
        refine dr_p (fun _ => by exact y_fieldE (.plain rfl) (le_ rfl)) rfl ?_
        refine dr_p (v := AV.int s.queue[k].value) (fun _ => by rw [← hx0 (by omega)]; exact y_loadE (.plain rfl) rfl) rfl ?_
        refine dr_p (fun _ => by exact y_sub (.plain rfl) (.plain rfl) (by first | omega | (simp; omega) | (simp at hc; omega) | (simp at hc ⊢; omega) | (simp; done))) rfl ?_
        refine dr_p (fun _ => by exact y_fieldPtr (.plain rfl)) rfl ?_
        refine dr_storeN (cs' := [_, _, _, _, _, _, _, _, _]) (by rfl) rfl (.plain rfl) (.plain rfl) (by first | exact .here | exact u1 | exact u2 | exact u3 | exact u4 | exact u5 | exact u6 | exact u7 | exact u8 | exact u9 | exact u10 | exact u11 | exact u12 | exact u13) (le_ rfl) (by rfl) ?_
        refine dr_nil ?_
        refine awp_seq ?_
        refine awp_region ?_
        refine st_p (fun _ => by exact y_move (.plain rfl)) rfl ?_
        refine st_p (fun _ => by exact y_fieldPtr (.plain rfl)) rfl ?_
        refine st_p (fun _ => by exact y_load (.plain rfl) (by first | exact .here | exact k1 | exact k2 | exact k3 | exact k4 | exact k5 | exact k6 | exact k7 | exact k8 | exact k9 | exact k10 | exact k11 | exact k12 | exact k13) rfl) rfl ?_
        first | refine st_p (fun _ => by exact y_indexMap (.plain rfl) (.plain rfl) rfl (by refine ⟨?_, ?_⟩; (first | omega | (simp; omega) | (simp at hc; omega) | (simp at hc ⊢; omega) | (simp; done)); rfl)) rfl ?_ | refine st_p (fun _ => by exact y_indexT (.plain rfl) (.plain rfl) (by first | omega | (simp; omega) | (simp at hc; omega) | (simp at hc ⊢; omega) | (simp; done)) (by first | omega | (simp; omega) | (simp at hc; omega) | (simp at hc ⊢; omega) | (simp; done))) rfl ?_ | refine st_p (fun _ => by exact y_index (.plain rfl) (.plain rfl) (by omega) rfl) rfl ?_ | refine st_p (fun _ => by exact y_indexArr (.plain rfl) (.plain rfl) rfl (by first | omega | (simp; omega) | (simp at hc; omega) | (simp at hc ⊢; omega) | (simp; done))) rfl ?_
        refine st_p (fun _ => by exact y_fieldE (.plain rfl) (le_ rfl)) rfl ?_
        refine st_p (v := AV.int s.queue[k].task) (fun _ => by rw [← hx0 (by omega)]; exact y_loadE (.plain rfl) rfl) rfl ?_
        refine st_p (fun _ => by exact y_build (out := [_, _, _, _, _]) (.cons (.plain rfl) inferInstance rfl (.cons (.plain rfl) inferInstance rfl (.cons (.plain rfl) inferInstance rfl (.cons (.plain rfl) inferInstance rfl .nil)))) rfl rfl) rfl ?_
        refine st_p (fun _ => by exact y_buildSlice (.cons (.plain rfl) inferInstance (by rfl) .nil) rfl (le_ rfl)) rfl ?_
        first | refine st_append (by rfl) (.plain rfl) (.plain rfl) (by first | (simp; try omega) | omega) rfl fun tN => ?_ | refine st_appendT (by rfl) (.plain rfl) (.plain rfl) (by first | exact .here | exact k1 | exact k2 | exact k3 | exact k4 | exact k5 | exact k6 | exact k7 | exact k8 | exact k9 | exact k10 | exact k11 | exact k12 | exact k13) (by first | (simp; try omega) | omega) rfl fun tN => ?_ | refine st_append0 (by rfl) (.plain rfl) (.plain rfl) (by first | (simp; try omega) | omega) rfl fun tN => ?_ | refine st_append0 (by rfl) (.imp (.plain rfl) AV.Imp.nil_grow) (.plain rfl) (by first | (simp; try omega) | omega) rfl fun tN => ?_ | refine st_append0 (by rfl) (.imp (.plain rfl) AV.Imp.full_grow) (.plain rfl) (by first | (simp; try omega) | omega) rfl fun tN => ?_ | refine st_appendT (by rfl) (.imp (.plain rfl) AV.Imp.own_grow) (.plain rfl) (by first | exact .here | exact k1 | exact k2 | exact k3 | exact k4 | exact k5 | exact k6 | exact k7 | exact k8 | exact k9 | exact k10 | exact k11 | exact k12 | exact k13) (by first | (simp; try omega) | omega) rfl fun tN => ?_
        refine st_p (fun _ => by exact y_assign (.plain rfl)) rfl ?_
        refine aops_nil ?_
        refine awp_region ?_
        refine st_p (fun _ => by exact y_buildSlice .nil rfl (le_ rfl)) rfl ?_
        refine st_p (fun _ => by exact y_fieldPtr (.plain rfl)) rfl ?_
        refine st_p (fun _ => by exact y_load (.plain rfl) (by first | exact .here | exact k1 | exact k2 | exact k3 | exact k4 | exact k5 | exact k6 | exact k7 | exact k8 | exact k9 | exact k10 | exact k11 | exact k12 | exact k13) rfl) rfl ?_
        first | refine st_p (fun _ => by exact y_sliceLoM (.plain rfl) (.plain rfl) rfl (by first | omega | (simp; omega) | (simp at hc; omega) | (simp at hc ⊢; omega) | (simp; done))) rfl ?_ | refine st_p (fun _ => by exact y_sliceLo (.plain rfl) (.plain rfl) rfl (by first | omega | (simp; omega) | (simp at hc; omega) | (simp at hc ⊢; omega) | (simp; done))) rfl ?_
        first | refine st_append (by rfl) (.plain rfl) (.plain rfl) (by first | (simp; try omega) | omega) rfl fun tM => ?_ | refine st_appendT (by rfl) (.plain rfl) (.plain rfl) (by first | exact .here | exact k1 | exact k2 | exact k3 | exact k4 | exact k5 | exact k6 | exact k7 | exact k8 | exact k9 | exact k10 | exact k11 | exact k12 | exact k13) (by first | (simp; try omega) | omega) rfl fun tM => ?_ | refine st_append0 (by rfl) (.plain rfl) (.plain rfl) (by first | (simp; try omega) | omega) rfl fun tM => ?_ | refine st_append0 (by rfl) (.imp (.plain rfl) AV.Imp.nil_grow) (.plain rfl) (by first | (simp; try omega) | omega) rfl fun tM => ?_ | refine st_append0 (by rfl) (.imp (.plain rfl) AV.Imp.full_grow) (.plain rfl) (by first | (simp; try omega) | omega) rfl fun tM => ?_ | refine st_appendT (by rfl) (.imp (.plain rfl) AV.Imp.own_grow) (.plain rfl) (by first | exact .here | exact k1 | exact k2 | exact k3 | exact k4 | exact k5 | exact k6 | exact k7 | exact k8 | exact k9 | exact k10 | exact k11 | exact k12 | exact k13) (by first | (simp; try omega) | omega) rfl fun tM => ?_
        refine st_p (fun _ => by exact y_fieldPtr (.plain rfl)) rfl ?_
        refine st_storeN (cs' := [_, _, _, _, _, _, _, _, _]) (by rfl) rfl (.plain rfl) (.plain rfl) (by first | exact .here | exact u1 | exact u2 | exact u3 | exact u4 | exact u5 | exact u6 | exact u7 | exact u8 | exact u9 | exact u10 | exact u11 | exact u12 | exact u13) (le_ rfl) (by rfl) ?_
        refine aops_nil ?_
        refine ⟨(k + 1, tN), ⟨by show k + 1 ≤ _; omega, by show Lm.nS s = k + 1 + Lm.nsv (Lm.cnt s.count s.queue (k + 1)) (s.queue.drop (k + 1)); omega⟩, by show s.queue.length - (k + 1) < s.queue.length - k; omega, ?_⟩
        dsimp only
        exact Weak.of2 (by (repeat (first | exact .nil _ | refine .cons rfl (by first | exact AV.Imp.refl _ | exact AV.Imp.of_eq (congrArg AV.int hx1) | exact AV.Imp.sl_of (congrArg _ hx2) | exact AV.Imp.grow_of hwk | exact AV.Imp.trans AV.Imp.grow_sl (AV.Imp.of_eq (congrArg slW hx2)) | exact Sl.imp | exact AV.Imp.agg RowOf.imp | exact AV.Imp.grow_sl | exact AV.Imp.nil_grow | exact AV.Imp.full_grow | exact AV.Imp.own_grow | exact AV.Imp.grow_of rfl | exact AV.Imp.sl_of rfl | exact AV.Imp.int_of (by omega) | exact AV.Imp.of_eq (by first | omega | simpa)) ?_)); done) (by (repeat (first | exact .refl _ | exact .nil _ | apply ItLe2.cons (by first | exact .here | exact k1 | exact k2 | exact k3 | exact k4 | exact k5 | exact k6 | exact k7 | exact k8 | exact k9 | exact k10 | exact k11 | exact k12 | exact k13) | apply ItLe2.cells (by first | exact .here | exact k1 | exact k2 | exact k3 | exact k4 | exact k5 | exact k6 | exact k7 | exact k8 | exact k9 | exact k10 | exact k11 | exact k12 | exact k13) (by repeat (first | exact .nil | refine .cons (by first | exact AV.Imp.refl _ | exact AV.Imp.of_eq (congrArg AV.int hx1) | exact AV.Imp.sl_of (congrArg _ hx2) | exact AV.Imp.grow_of hwk | exact AV.Imp.trans AV.Imp.grow_sl (AV.Imp.of_eq (congrArg slW hx2)) | exact Sl.imp | exact AV.Imp.agg RowOf.imp | exact AV.Imp.grow_sl | exact AV.Imp.nil_grow | exact AV.Imp.full_grow | exact AV.Imp.own_grow | exact AV.Imp.grow_of rfl | exact AV.Imp.sl_of rfl | exact AV.Imp.int_of (by omega) | exact AV.Imp.of_eq (by first | omega | simpa)) ?_)) | apply ItLe2.tail0)); done)
      · kernel_rfl
    · skip
      try simp only [decide_eq_true_eq, decide_eq_false_iff_not, Bool.not_eq_true', Bool.not_eq_false', Bool.not_eq_true, Bool.not_eq_false, List.length_map, Int.ofNat_lt, Int.ofNat_le, Bool.or_eq_true, Bool.and_eq_true, Bool.or_eq_false_iff, Bool.and_eq_false_iff] at h1
      refine awp_exit ?_
      refine awp_seq ?_
      refine awp_region ?_
      refine st_p (fun _ => by exact y_loadW (.plain rfl) (by first | exact .here | exact k1 | exact k2 | exact k3 | exact k4 | exact k5 | exact k6 | exact k7 | exact k8 | exact k9 | exact k10 | exact k11 | exact k12 | exact k13) (by rfl)) rfl ?_
      refine st_p (fun _ => by exact y_move (.plain rfl)) rfl ?_
      refine st_s (fun _ => by exact y_storeW (by rfl) rfl (.plain rfl) (.plain rfl) (by first | exact .here | exact u1 | exact u2 | exact u3 | exact u4 | exact u5 | exact u6 | exact u7 | exact u8 | exact u9 | exact u10 | exact u11 | exact u12 | exact u13) (by rfl)) ?_
      refine st_p (fun _ => by exact y_assign (.plain rfl)) rfl ?_
      refine aops_nil ?_
      refine awp_ret ?_
      refine retG (.inr rfl) (.cons (res_cellW rfl (by first | exact .here | exact k1 | exact k2 | exact k3 | exact k4 | exact k5 | exact k6 | exact k7 | exact k8 | exact k9 | exact k10 | exact k11 | exact k12 | exact k13) (by rfl)) (.cons (.tmp rfl) .nil)) (VShift.of2 (AV.Imp.tup (.cons (AV.Imp.agg (RowOf.imp (enc := encS))) (.cons (Sl.imp (enc := encK)) .nil))) (.nil _)) ⟨congrArg (fun x : (Wl.St) × (List (Wl.Wk)) => (AV.tup [(AV.agg (encS x.1)), (AV.sl 5 (List.map encK x.2))])) (show (_, _) = ((Lm.serveS s (Lm.nS s), Lm.wk s.queue (Lm.nS s))) from ?_), rfl⟩
      have hst := Lm.nsv_stop (c := s.count) (q := s.queue) (k := k) (fun hkq hle => by
        rcases h1 with h1 | h1
        · simp [Lm.serveS] at h1; omega
        · exact h1 (by simpa [Lm.serveS, List.getD, hkq] using hle))
      obtain rfl : k = Lm.nS s := by omega
      rfl
  · kernel_rfl

theorem applyR_c (o : Ob) (s : St) (c : Cl) (hs : smN 1000000 s) : ACalls Try.prog 17 [(AV.agg (encO o)), (AV.agg (encS s)), (AV.agg (encC c))] [] (fun v st => v = (AV.tup [(AV.agg (encR ((Lm.apply o s c).1))), (AV.int ((Lm.apply o s c).2))]) ∧ st = []) := by
  refine acalls_body Try.func17 (by kernel_rfl) rfl Try.ntmps17 (le_ rfl) ?_
  rw [Try.results17]
  refine awp_seq ?_
  refine awp_region ?_
  refine st_n (fun _ => by exact y_box (.plain rfl)) rfl fun n1 => ?_
  refine st_n (fun _ => by exact y_box (.plain rfl)) rfl fun n2 => ?_
  refine st_n (fun _ => by exact y_box (.plain rfl)) rfl fun n3 => ?_
  refine st_n (fun _ => by exact y_alloc) rfl fun n4 => ?_
  refine st_p (fun _ => by exact y_assign (.plain rfl)) rfl ?_
  refine aops_nil ?_
  refine awp_seq ?_
  refine awp_seq ?_
  refine awp_region ?_
  refine st_p (fun _ => by exact y_loadW (.plain rfl) (by first | exact .here | exact k1 | exact k2 | exact k3 | exact k4 | exact k5 | exact k6 | exact k7 | exact k8 | exact k9 | exact k10 | exact k11 | exact k12 | exact k13) (by rfl)) rfl ?_
  refine st_p (fun _ => by exact y_loadW (.plain rfl) (by first | exact .here | exact k1 | exact k2 | exact k3 | exact k4 | exact k5 | exact k6 | exact k7 | exact k8 | exact k9 | exact k10 | exact k11 | exact k12 | exact k13) (by rfl)) rfl ?_
  refine aops_call (blt_lt rfl) (.plain rfl) (.cons (.imp (.plain rfl) (AV.Imp.agg (RowOf.imp (enc := encO)))) (.cons (.imp (.plain rfl) (AV.Imp.agg (RowOf.imp (enc := encS)))) .nil)) (ACalls.here (lmchkR_c _ _ (by first | assumption | exact Sm.to (by omega) | exact Sm.q (by omega) | exact Lm.apply_wl (by omega) | exact Lm.withdraw_wl | omega | exact smN.le (by assumption) (by omega) | (simp at hc; omega) | (simp; omega))) ?_)
  refine st_p (fun _ => by exact y_assign (.plain rfl)) rfl ?_
  refine aops_nil ?_
  refine awp_seq ?_
  refine awp_region ?_
  refine st_p (fun _ => by exact y_move (.plain rfl)) rfl ?_
  refine st_p (fun _ => by exact y_neq (.plain rfl) (.plain rfl)) rfl ?_
  refine aops_nil ?_
  refine awp_cond rfl (fun h1 => ?_) (fun h1 => ?_)
  · skip
    try simp only [decide_eq_true_eq, decide_eq_false_iff_not, Bool.not_eq_true', Bool.not_eq_false', Bool.not_eq_true, Bool.not_eq_false, List.length_map, Int.ofNat_lt, Int.ofNat_le, Bool.or_eq_true, Bool.and_eq_true, Bool.or_eq_false_iff, Bool.and_eq_false_iff] at h1
    refine awp_seq ?_
    refine awp_region ?_
    refine st_p (fun _ => by exact y_build (out := [_, _, _, _, _, _, _, _, _, _, _, _, _]) .nil rfl rfl) rfl ?_
    refine st_p (fun _ => by exact y_move (.plain rfl)) rfl ?_
    refine st_s (fun _ => by exact y_storeW (by rfl) rfl (.plain rfl) (.plain rfl) (by first | exact .here | exact u1 | exact u2 | exact u3 | exact u4 | exact u5 | exact u6 | exact u7 | exact u8 | exact u9 | exact u10 | exact u11 | exact u12 | exact u13) (by rfl)) ?_
    refine st_p (fun _ => by exact y_assign (.plain rfl)) rfl ?_
    refine aops_nil ?_
    refine awp_ret ?_
    refine retG (.inr rfl) (.cons (res_cellW rfl (by first | exact .here | exact k1 | exact k2 | exact k3 | exact k4 | exact k5 | exact k6 | exact k7 | exact k8 | exact k9 | exact k10 | exact k11 | exact k12 | exact k13) (by rfl)) (.cons (.tmp rfl) .nil)) (VShift.of2 (AV.Imp.tup (.cons (AV.Imp.agg (RowOf.imp (enc := encR))) (.cons (AV.Imp.refl _) .nil))) (.nil _)) ⟨congrArg (fun x : (Wl.Rp) × (Int) => (AV.tup [(AV.agg (encR x.1)), (AV.int x.2)])) (show (_, _) = (Lm.apply o s c) from ?_), rfl⟩
    show (R0, Lm.chk o s) = Lm.apply o s c
    rw [Lm.apply, if_pos h1]
  · skip
    try simp only [decide_eq_true_eq, decide_eq_false_iff_not, Bool.not_eq_true', Bool.not_eq_false', Bool.not_eq_true, Bool.not_eq_false, List.length_map, Int.ofNat_lt, Int.ofNat_le, Bool.or_eq_true, Bool.and_eq_true, Bool.or_eq_false_iff, Bool.and_eq_false_iff] at h1
    refine awp_skip ?_
    refine awp_seq ?_
    refine awp_seq ?_
    refine awp_region ?_
    refine st_p (fun _ => by exact y_fieldPtr (.plain rfl)) rfl ?_
    refine st_p (fun _ => by exact y_load (.plain rfl) (by first | exact .here | exact k1 | exact k2 | exact k3 | exact k4 | exact k5 | exact k6 | exact k7 | exact k8 | exact k9 | exact k10 | exact k11 | exact k12 | exact k13) rfl) rfl ?_
    refine st_p (fun _ => by exact y_neq (.plain rfl) (.plain rfl)) rfl ?_
    refine st_p (fun _ => by exact y_move (.plain rfl)) rfl ?_
    refine st_g rfl rfl rfl SaysI.out (fun hc _ => by exact y_fieldPtr (.plain rfl)) rfl ?_
    refine st_g rfl rfl rfl SaysI.out (fun hc _ => by exact y_load (.opt rfl hc) (by first | exact .here | exact k1 | exact k2 | exact k3 | exact k4 | exact k5 | exact k6 | exact k7 | exact k8 | exact k9 | exact k10 | exact k11 | exact k12 | exact k13) rfl) rfl ?_
    refine st_g rfl rfl rfl SaysI.out (fun hc _ => by exact y_neq (.opt rfl hc) (.plain rfl)) rfl ?_
    refine st_p (fun _ => by exact y_and (.plain rfl) rfl rfl) rfl ?_
    refine aops_nil ?_
    refine awp_cond rfl (fun h2 => ?_) (fun h2 => ?_)
    · skip
      try simp only [decide_eq_true_eq, decide_eq_false_iff_not, Bool.not_eq_true', Bool.not_eq_false', Bool.not_eq_true, Bool.not_eq_false, List.length_map, Int.ofNat_lt, Int.ofNat_le, Bool.or_eq_true, Bool.and_eq_true, Bool.or_eq_false_iff, Bool.and_eq_false_iff] at h2
      refine awp_seq ?_
      refine awp_region ?_
      refine st_p (fun _ => by exact y_build (out := [_, _, _, _, _, _, _, _, _, _, _, _, _]) .nil rfl rfl) rfl ?_
      refine st_s (fun _ => by exact y_storeW (by rfl) rfl (.plain rfl) (.plain rfl) (by first | exact .here | exact u1 | exact u2 | exact u3 | exact u4 | exact u5 | exact u6 | exact u7 | exact u8 | exact u9 | exact u10 | exact u11 | exact u12 | exact u13) (by rfl)) ?_
      refine st_p (fun _ => by exact y_assign (.plain rfl)) rfl ?_
      refine aops_nil ?_
      refine awp_ret ?_
      refine retG (.inr rfl) (.cons (res_cellW rfl (by first | exact .here | exact k1 | exact k2 | exact k3 | exact k4 | exact k5 | exact k6 | exact k7 | exact k8 | exact k9 | exact k10 | exact k11 | exact k12 | exact k13) (by rfl)) (.cons (.tmp rfl) .nil)) (VShift.of2 (AV.Imp.tup (.cons (AV.Imp.agg (RowOf.imp (enc := encR))) (.cons (AV.Imp.refl _) .nil))) (.nil _)) ⟨congrArg (fun x : (Wl.Rp) × (Int) => (AV.tup [(AV.agg (encR x.1)), (AV.int x.2)])) (show (_, _) = (Lm.apply o s c) from ?_), rfl⟩
      show (R0, (8 : Int)) = Lm.apply o s c
      have he : Lm.err o s c = 8 := by rw [Lm.err, if_pos (by omega)]
      rw [Lm.apply, if_neg (by omega), he]; rfl
    · skip
      try simp only [decide_eq_true_eq, decide_eq_false_iff_not, Bool.not_eq_true', Bool.not_eq_false', Bool.not_eq_true, Bool.not_eq_false, List.length_map, Int.ofNat_lt, Int.ofNat_le, Bool.or_eq_true, Bool.and_eq_true, Bool.or_eq_false_iff, Bool.and_eq_false_iff] at h2
      refine awp_skip ?_
      refine awp_seq ?_
      refine awp_seq ?_
      refine awp_region ?_
      refine st_p (fun _ => by exact y_fieldPtr (.plain rfl)) rfl ?_
      refine st_p (fun _ => by exact y_load (.plain rfl) (by first | exact .here | exact k1 | exact k2 | exact k3 | exact k4 | exact k5 | exact k6 | exact k7 | exact k8 | exact k9 | exact k10 | exact k11 | exact k12 | exact k13) rfl) rfl ?_
      refine st_p (fun _ => by exact y_fieldPtr (.plain rfl)) rfl ?_
      refine st_p (fun _ => by exact y_load (.plain rfl) (by first | exact .here | exact k1 | exact k2 | exact k3 | exact k4 | exact k5 | exact k6 | exact k7 | exact k8 | exact k9 | exact k10 | exact k11 | exact k12 | exact k13) rfl) rfl ?_
      refine st_p (fun _ => by exact y_lss (.plain rfl) (.plain rfl)) rfl ?_
      refine st_p (fun _ => by exact y_move (.plain rfl)) rfl ?_
      refine st_g rfl rfl rfl SaysI.out (fun hc _ => by exact y_fieldPtr (.plain rfl)) rfl ?_
      refine st_g rfl rfl rfl SaysI.out (fun hc _ => by exact y_load (.opt rfl hc) (by first | exact .here | exact k1 | exact k2 | exact k3 | exact k4 | exact k5 | exact k6 | exact k7 | exact k8 | exact k9 | exact k10 | exact k11 | exact k12 | exact k13) rfl) rfl ?_
      refine st_g rfl rfl rfl SaysI.out (fun hc _ => by exact y_gtr (.opt rfl hc) (.plain rfl)) rfl ?_
      refine st_p (fun _ => by exact y_or (.plain rfl) rfl rfl) rfl ?_
      refine aops_nil ?_
      refine awp_cond rfl (fun h3 => ?_) (fun h3 => ?_)
      · skip
        try simp only [decide_eq_true_eq, decide_eq_false_iff_not, Bool.not_eq_true', Bool.not_eq_false', Bool.not_eq_true, Bool.not_eq_false, List.length_map, Int.ofNat_lt, Int.ofNat_le, Bool.or_eq_true, Bool.and_eq_true, Bool.or_eq_false_iff, Bool.and_eq_false_iff] at h3
        refine awp_seq ?_
        refine awp_region ?_
        refine st_p (fun _ => by exact y_build (out := [_, _, _, _, _, _, _, _, _, _, _, _, _]) .nil rfl rfl) rfl ?_
        refine st_s (fun _ => by exact y_storeW (by rfl) rfl (.plain rfl) (.plain rfl) (by first | exact .here | exact u1 | exact u2 | exact u3 | exact u4 | exact u5 | exact u6 | exact u7 | exact u8 | exact u9 | exact u10 | exact u11 | exact u12 | exact u13) (by rfl)) ?_
        refine st_p (fun _ => by exact y_assign (.plain rfl)) rfl ?_
        refine aops_nil ?_
        refine awp_ret ?_
        refine retG (.inr rfl) (.cons (res_cellW rfl (by first | exact .here | exact k1 | exact k2 | exact k3 | exact k4 | exact k5 | exact k6 | exact k7 | exact k8 | exact k9 | exact k10 | exact k11 | exact k12 | exact k13) (by rfl)) (.cons (.tmp rfl) .nil)) (VShift.of2 (AV.Imp.tup (.cons (AV.Imp.agg (RowOf.imp (enc := encR))) (.cons (AV.Imp.refl _) .nil))) (.nil _)) ⟨congrArg (fun x : (Wl.Rp) × (Int) => (AV.tup [(AV.agg (encR x.1)), (AV.int x.2)])) (show (_, _) = (Lm.apply o s c) from ?_), rfl⟩
        show (R0, (2 : Int)) = Lm.apply o s c
        have he : Lm.err o s c = 2 := by rw [Lm.err, if_neg (by omega), if_pos (by omega)]
        rw [Lm.apply, if_neg (by omega), he]; rfl
      · skip
        try simp only [decide_eq_true_eq, decide_eq_false_iff_not, Bool.not_eq_true', Bool.not_eq_false', Bool.not_eq_true, Bool.not_eq_false, List.length_map, Int.ofNat_lt, Int.ofNat_le, Bool.or_eq_true, Bool.and_eq_true, Bool.or_eq_false_iff, Bool.and_eq_false_iff] at h3
        refine awp_skip ?_
        refine awp_seq ?_
        refine awp_seq ?_
        refine awp_region ?_
        refine st_p (fun _ => by exact y_fieldPtr (.plain rfl)) rfl ?_
        refine st_p (fun _ => by exact y_load (.plain rfl) (by first | exact .here | exact k1 | exact k2 | exact k3 | exact k4 | exact k5 | exact k6 | exact k7 | exact k8 | exact k9 | exact k10 | exact k11 | exact k12 | exact k13) rfl) rfl ?_
        refine st_p (fun _ => by exact y_eql (.plain rfl) (.plain rfl)) rfl ?_
        refine st_p (fun _ => by exact y_move (.plain rfl)) rfl ?_
        refine st_g rfl rfl rfl SaysI.out (fun hc _ => by exact y_fieldPtr (.plain rfl)) rfl ?_
        refine st_g rfl rfl rfl SaysI.out (fun hc _ => by exact y_load (.opt rfl hc) (by first | exact .here | exact k1 | exact k2 | exact k3 | exact k4 | exact k5 | exact k6 | exact k7 | exact k8 | exact k9 | exact k10 | exact k11 | exact k12 | exact k13) rfl) rfl ?_
        refine st_g rfl rfl rfl SaysI.out (fun hc _ => by exact y_call (.plain rfl) (.cons (.opt rfl hc) .nil) (ACalls.pure (taskB_c _))) rfl ?_
        refine st_g rfl rfl rfl SaysI.out (fun hc _ => by exact y_not (.opt rfl hc)) rfl ?_
        refine st_g rfl rfl rfl SaysI.out (fun hc _ => by exact y_move (.opt rfl hc)) rfl ?_
        refine st_g rfl rfl rfl SaysI.out (fun hc _ => by exact y_fieldPtr (.plain rfl)) rfl ?_
        refine st_g rfl rfl rfl SaysI.out (fun hc _ => by exact y_load (.opt rfl hc) (by first | exact .here | exact k1 | exact k2 | exact k3 | exact k4 | exact k5 | exact k6 | exact k7 | exact k8 | exact k9 | exact k10 | exact k11 | exact k12 | exact k13) rfl) rfl ?_
        refine st_g rfl rfl rfl SaysI.out (fun hc _ => by exact y_lss (.opt rfl hc) (.plain rfl)) rfl ?_
        first | refine st_g rfl rfl rfl SaysI.out (fun hc _ => by exact y_or' hc (.opt rfl hc) rfl rfl) rfl ?_ | refine st_g rfl rfl rfl SaysI.out (fun hc _ => by exact y_or (.opt rfl hc) rfl rfl) rfl ?_
        refine st_g rfl rfl rfl SaysI.out (fun hc _ => by exact y_move (.opt rfl hc)) rfl ?_
        refine st_g rfl rfl rfl SaysI.out (fun hc _ => by exact y_fieldPtr (.plain rfl)) rfl ?_
        refine st_g rfl rfl rfl SaysI.out (fun hc _ => by exact y_load (.opt rfl hc) (by first | exact .here | exact k1 | exact k2 | exact k3 | exact k4 | exact k5 | exact k6 | exact k7 | exact k8 | exact k9 | exact k10 | exact k11 | exact k12 | exact k13) rfl) rfl ?_
        refine st_g rfl rfl rfl SaysI.out (fun hc _ => by exact y_gtr (.opt rfl hc) (.plain rfl)) rfl ?_
        first | refine st_g rfl rfl rfl SaysI.out (fun hc _ => by exact y_or' hc (.opt rfl hc) rfl rfl) rfl ?_ | refine st_g rfl rfl rfl SaysI.out (fun hc _ => by exact y_or (.opt rfl hc) rfl rfl) rfl ?_
        refine st_g rfl rfl rfl SaysI.out (fun hc _ => by exact y_move (.opt rfl hc)) rfl ?_
        refine st_g rfl rfl rfl SaysI.out (fun hc _ => by exact y_fieldPtr (.plain rfl)) rfl ?_
        refine st_g rfl rfl rfl SaysI.out (fun hc _ => by exact y_load (.opt rfl hc) (by first | exact .here | exact k1 | exact k2 | exact k3 | exact k4 | exact k5 | exact k6 | exact k7 | exact k8 | exact k9 | exact k10 | exact k11 | exact k12 | exact k13) rfl) rfl ?_
        refine st_g rfl rfl rfl SaysI.out (fun hc _ => by exact y_lss (.opt rfl hc) (.plain rfl)) rfl ?_
        first | refine st_g rfl rfl rfl SaysI.out (fun hc _ => by exact y_or' hc (.opt rfl hc) rfl rfl) rfl ?_ | refine st_g rfl rfl rfl SaysI.out (fun hc _ => by exact y_or (.opt rfl hc) rfl rfl) rfl ?_
        refine st_g rfl rfl rfl SaysI.out (fun hc _ => by exact y_move (.opt rfl hc)) rfl ?_
        refine st_g rfl rfl rfl SaysI.out (fun hc _ => by exact y_fieldPtr (.plain rfl)) rfl ?_
        refine st_g rfl rfl rfl SaysI.out (fun hc _ => by exact y_load (.opt rfl hc) (by first | exact .here | exact k1 | exact k2 | exact k3 | exact k4 | exact k5 | exact k6 | exact k7 | exact k8 | exact k9 | exact k10 | exact k11 | exact k12 | exact k13) rfl) rfl ?_
        refine st_g rfl rfl rfl SaysI.out (fun hc _ => by exact y_fieldPtr (.plain rfl)) rfl ?_
        refine st_g rfl rfl rfl SaysI.out (fun hc _ => by exact y_load (.opt rfl hc) (by first | exact .here | exact k1 | exact k2 | exact k3 | exact k4 | exact k5 | exact k6 | exact k7 | exact k8 | exact k9 | exact k10 | exact k11 | exact k12 | exact k13) rfl) rfl ?_
        refine st_g rfl rfl rfl SaysI.out (fun hc _ => by exact y_gtr (.opt rfl hc) (.opt rfl hc)) rfl ?_
        first | refine st_g rfl rfl rfl SaysI.out (fun hc _ => by exact y_or' hc (.opt rfl hc) rfl rfl) rfl ?_ | refine st_g rfl rfl rfl SaysI.out (fun hc _ => by exact y_or (.opt rfl hc) rfl rfl) rfl ?_
        refine st_p (fun _ => by exact y_and (.plain rfl) rfl rfl) rfl ?_
        refine aops_nil ?_
        refine awp_cond rfl (fun h4 => ?_) (fun h4 => ?_)
        · skip
          try simp only [decide_eq_true_eq, decide_eq_false_iff_not, Bool.not_eq_true', Bool.not_eq_false', Bool.not_eq_true, Bool.not_eq_false, List.length_map, Int.ofNat_lt, Int.ofNat_le, Bool.or_eq_true, Bool.and_eq_true, Bool.or_eq_false_iff, Bool.and_eq_false_iff] at h4
          refine awp_seq ?_
          refine awp_region ?_
          refine st_p (fun _ => by exact y_build (out := [_, _, _, _, _, _, _, _, _, _, _, _, _]) .nil rfl rfl) rfl ?_
          refine st_s (fun _ => by exact y_storeW (by rfl) rfl (.plain rfl) (.plain rfl) (by first | exact .here | exact u1 | exact u2 | exact u3 | exact u4 | exact u5 | exact u6 | exact u7 | exact u8 | exact u9 | exact u10 | exact u11 | exact u12 | exact u13) (by rfl)) ?_
          refine st_p (fun _ => by exact y_assign (.plain rfl)) rfl ?_
          refine aops_nil ?_
          refine awp_ret ?_
          refine retG (.inr rfl) (.cons (res_cellW rfl (by first | exact .here | exact k1 | exact k2 | exact k3 | exact k4 | exact k5 | exact k6 | exact k7 | exact k8 | exact k9 | exact k10 | exact k11 | exact k12 | exact k13) (by rfl)) (.cons (.tmp rfl) .nil)) (VShift.of2 (AV.Imp.tup (.cons (AV.Imp.agg (RowOf.imp (enc := encR))) (.cons (AV.Imp.refl _) .nil))) (.nil _)) ⟨congrArg (fun x : (Wl.Rp) × (Int) => (AV.tup [(AV.agg (encR x.1)), (AV.int x.2)])) (show (_, _) = (Lm.apply o s c) from ?_), rfl⟩
          show (R0, (2 : Int)) = Lm.apply o s c
          have he : Lm.err o s c = 2 := by rw [Lm.err, if_neg (by omega), if_neg (by omega), if_neg (by omega), if_pos (by omega)]
          rw [Lm.apply, if_neg (by omega), he]; rfl
        · skip
          try simp only [decide_eq_true_eq, decide_eq_false_iff_not, Bool.not_eq_true', Bool.not_eq_false', Bool.not_eq_true, Bool.not_eq_false, List.length_map, Int.ofNat_lt, Int.ofNat_le, Bool.or_eq_true, Bool.and_eq_true, Bool.or_eq_false_iff, Bool.and_eq_false_iff] at h4
          refine awp_skip ?_
          refine awp_seq ?_
          refine awp_seq ?_
          refine awp_region ?_
          refine st_p (fun _ => by exact y_fieldPtr (.plain rfl)) rfl ?_
          refine st_p (fun _ => by exact y_load (.plain rfl) (by first | exact .here | exact k1 | exact k2 | exact k3 | exact k4 | exact k5 | exact k6 | exact k7 | exact k8 | exact k9 | exact k10 | exact k11 | exact k12 | exact k13) rfl) rfl ?_
          refine st_p (fun _ => by exact y_eql (.plain rfl) (.plain rfl)) rfl ?_
          refine st_p (fun _ => by exact y_move (.plain rfl)) rfl ?_
          refine st_g rfl rfl rfl SaysI.out (fun hc _ => by exact y_fieldPtr (.plain rfl)) rfl ?_
          refine st_g rfl rfl rfl SaysI.out (fun hc _ => by exact y_load (.opt rfl hc) (by first | exact .here | exact k1 | exact k2 | exact k3 | exact k4 | exact k5 | exact k6 | exact k7 | exact k8 | exact k9 | exact k10 | exact k11 | exact k12 | exact k13) rfl) rfl ?_
          refine st_g rfl rfl rfl SaysI.out (fun hc _ => by exact y_fieldPtr (.plain rfl)) rfl ?_
          refine st_g rfl rfl rfl SaysI.out (fun hc _ => by exact y_load (.opt rfl hc) (by first | exact .here | exact k1 | exact k2 | exact k3 | exact k4 | exact k5 | exact k6 | exact k7 | exact k8 | exact k9 | exact k10 | exact k11 | exact k12 | exact k13) rfl) rfl ?_
          refine st_g rfl rfl rfl SaysI.out (fun hc _ => by exact y_call (.plain rfl) (.cons (.imp (.opt rfl hc) (Sl.imp (enc := encW))) (.cons (.opt rfl hc) .nil)) (ACalls.pure (waits16_c s.queue c.task hs.q))) rfl ?_
          refine st_p (fun _ => by exact y_and (.plain rfl) rfl rfl) rfl ?_
          refine aops_nil ?_
          refine awp_cond rfl (fun h5 => ?_) (fun h5 => ?_)
          · skip
            try simp only [decide_eq_true_eq, decide_eq_false_iff_not, Bool.not_eq_true', Bool.not_eq_false', Bool.not_eq_true, Bool.not_eq_false, List.length_map, Int.ofNat_lt, Int.ofNat_le, Bool.or_eq_true, Bool.and_eq_true, Bool.or_eq_false_iff, Bool.and_eq_false_iff] at h5
            refine awp_seq ?_
            refine awp_region ?_
            refine st_p (fun _ => by exact y_build (out := [_, _, _, _, _, _, _, _, _, _, _, _, _]) .nil rfl rfl) rfl ?_
            refine st_s (fun _ => by exact y_storeW (by rfl) rfl (.plain rfl) (.plain rfl) (by first | exact .here | exact u1 | exact u2 | exact u3 | exact u4 | exact u5 | exact u6 | exact u7 | exact u8 | exact u9 | exact u10 | exact u11 | exact u12 | exact u13) (by rfl)) ?_
            refine st_p (fun _ => by exact y_assign (.plain rfl)) rfl ?_
            refine aops_nil ?_
            refine awp_ret ?_
            refine retG (.inr rfl) (.cons (res_cellW rfl (by first | exact .here | exact k1 | exact k2 | exact k3 | exact k4 | exact k5 | exact k6 | exact k7 | exact k8 | exact k9 | exact k10 | exact k11 | exact k12 | exact k13) (by rfl)) (.cons (.tmp rfl) .nil)) (VShift.of2 (AV.Imp.tup (.cons (AV.Imp.agg (RowOf.imp (enc := encR))) (.cons (AV.Imp.refl _) .nil))) (.nil _)) ⟨congrArg (fun x : (Wl.Rp) × (Int) => (AV.tup [(AV.agg (encR x.1)), (AV.int x.2)])) (show (_, _) = (Lm.apply o s c) from ?_), rfl⟩
            show (R0, (17 : Int)) = Lm.apply o s c
            have he : Lm.err o s c = 17 := by rw [Lm.err, if_neg (by omega), if_neg (by omega), if_neg (by omega), if_neg (by omega), if_pos (by simpa using h5.2)]
            rw [Lm.apply, if_neg (by omega), he]; rfl
          · skip
            try simp only [decide_eq_true_eq, decide_eq_false_iff_not, Bool.not_eq_true', Bool.not_eq_false', Bool.not_eq_true, Bool.not_eq_false, List.length_map, Int.ofNat_lt, Int.ofNat_le, Bool.or_eq_true, Bool.and_eq_true, Bool.or_eq_false_iff, Bool.and_eq_false_iff] at h5
            refine awp_skip ?_
            refine awp_seq ?_
            have hee : Lm.err o s c = 0 := by
              rw [Lm.err, if_neg (by omega), if_neg (by omega)]
              by_cases h75 : c.op = 75
              · rw [if_pos h75]
              · rw [if_neg h75, if_neg (by omega), if_neg (by intro e; simp [e] at h5; omega)]
            have hk := Lm.okk (by omega : Lm.chk o s = 0)
            have hks := hk.size
            obtain ⟨hop, hn2, hne⟩ := Lm.err_zero hee
            obtain ⟨hk1, hcc, htt, htn⟩ := hk.refill hn2
            have hs1 := hk1.sm
            have hk2 := hk1.serveS (Nat.le_refl _)
            have hk2c := hk2.count
            have hs2 := hk2.sm
            have hsq := hs2.q
            have hq1 := hs1.q
            have hwl := Lm.wk_len (Lm.refill o s c.now).queue (Lm.nS (Lm.refill o s c.now))
            refine awp_region ?_
            refine st_p (fun _ => by exact y_loadW (.plain rfl) (by first | exact .here | exact k1 | exact k2 | exact k3 | exact k4 | exact k5 | exact k6 | exact k7 | exact k8 | exact k9 | exact k10 | exact k11 | exact k12 | exact k13) (by rfl)) rfl ?_
            refine st_p (fun _ => by exact y_loadW (.plain rfl) (by first | exact .here | exact k1 | exact k2 | exact k3 | exact k4 | exact k5 | exact k6 | exact k7 | exact k8 | exact k9 | exact k10 | exact k11 | exact k12 | exact k13) (by rfl)) rfl ?_
            refine st_p (fun _ => by exact y_fieldPtr (.plain rfl)) rfl ?_
            refine st_p (fun _ => by exact y_load (.plain rfl) (by first | exact .here | exact k1 | exact k2 | exact k3 | exact k4 | exact k5 | exact k6 | exact k7 | exact k8 | exact k9 | exact k10 | exact k11 | exact k12 | exact k13) rfl) rfl ?_
            refine aops_call (blt_lt rfl) (.plain rfl) (.cons (.imp (.plain rfl) (AV.Imp.agg (RowOf.imp (enc := encO)))) (.cons (.imp (.plain rfl) (AV.Imp.agg (RowOf.imp (enc := encS)))) (.cons (.plain rfl) .nil))) (ACalls.here (refillR_c o s c.now hk.other.1 ⟨by omega, by omega⟩ hk.count hn2 hk.time.1) ?_)
            refine aops_call (blt_lt rfl) (.plain rfl) (.cons (.imp (.plain rfl) (AV.Imp.agg (RowOf.imp (enc := encS)))) .nil) (ACalls.here (serveR_c (Lm.refill o s c.now) (hs1.le (by omega)) (fun k hk => by have := hk1.cnt hk; have := hk1.count; omega) (fun w hw => by have := hk1.value w hw; omega)) ?_)
            refine st_p (fun _ => by exact y_move (.plain rfl)) rfl ?_
            refine st_p (fun _ => by exact y_extract (.plain rfl) rfl) rfl ?_
            refine st_p (fun _ => by exact y_extract (.plain rfl) rfl) rfl ?_
            refine st_n (fun _ => by exact y_alloc) rfl fun n5 => ?_
            refine st_s (fun _ => by exact y_storeW (by rfl) rfl (.plain rfl) (.plain rfl) (by first | exact .here | exact u1 | exact u2 | exact u3 | exact u4 | exact u5 | exact u6 | exact u7 | exact u8 | exact u9 | exact u10 | exact u11 | exact u12 | exact u13) (by rfl)) ?_
            refine st_p (fun _ => by exact y_assign (.plain rfl)) rfl ?_
            refine aops_nil ?_
            refine awp_seq ?_
            refine awp_seq ?_
            refine awp_region ?_
            refine st_p (fun _ => by exact y_fieldPtr (.plain rfl)) rfl ?_
            refine st_p (fun _ => by exact y_load (.plain rfl) (by first | exact .here | exact k1 | exact k2 | exact k3 | exact k4 | exact k5 | exact k6 | exact k7 | exact k8 | exact k9 | exact k10 | exact k11 | exact k12 | exact k13) rfl) rfl ?_
            refine st_p (fun _ => by exact y_eql (.plain rfl) (.plain rfl)) rfl ?_
            refine aops_nil ?_
            refine awp_cond rfl (fun h6 => ?_) (fun h6 => ?_)
            · skip
              try simp only [decide_eq_true_eq, decide_eq_false_iff_not, Bool.not_eq_true', Bool.not_eq_false', Bool.not_eq_true, Bool.not_eq_false, List.length_map, Int.ofNat_lt, Int.ofNat_le, Bool.or_eq_true, Bool.and_eq_true, Bool.or_eq_false_iff, Bool.and_eq_false_iff] at h6
              refine awp_seq ?_
              refine awp_region ?_
              refine st_p (fun _ => by exact y_loadW (.plain rfl) (by first | exact .here | exact k1 | exact k2 | exact k3 | exact k4 | exact k5 | exact k6 | exact k7 | exact k8 | exact k9 | exact k10 | exact k11 | exact k12 | exact k13) (by rfl)) rfl ?_
              refine st_p (fun _ => by exact y_move (.plain rfl)) rfl ?_
              refine st_p (fun _ => by exact y_build (out := [_, _, _, _, _, _, _, _, _, _, _, _, _]) (.cons (.plain rfl) inferInstance rfl (.cons (.plain rfl) inferInstance rfl (.cons (.plain rfl) inferInstance rfl .nil))) rfl rfl) rfl ?_
              refine st_s (fun _ => by exact y_storeW (by rfl) rfl (.plain rfl) (.plain rfl) (by first | exact .here | exact u1 | exact u2 | exact u3 | exact u4 | exact u5 | exact u6 | exact u7 | exact u8 | exact u9 | exact u10 | exact u11 | exact u12 | exact u13) (by rfl)) ?_
              refine st_p (fun _ => by exact y_assign (.plain rfl)) rfl ?_
              refine aops_nil ?_
              refine awp_ret ?_
              refine retG (.inr rfl) (.cons (res_cellW rfl (by first | exact .here | exact k1 | exact k2 | exact k3 | exact k4 | exact k5 | exact k6 | exact k7 | exact k8 | exact k9 | exact k10 | exact k11 | exact k12 | exact k13) (by rfl)) (.cons (.tmp rfl) .nil)) (VShift.of2 (AV.Imp.tup (.cons (AV.Imp.agg (RowOf.imp (enc := encR))) (.cons (AV.Imp.refl _) .nil))) (.nil _)) ⟨congrArg (fun x : (Wl.Rp) × (Int) => (AV.tup [(AV.agg (encR x.1)), (AV.int x.2)])) (show (_, _) = (Lm.apply o s c) from ?_), rfl⟩
              rw [Lm.apply, if_neg (by omega), if_neg (by omega), Lm.doR, if_pos (by assumption)]
              all_goals rfl
            · skip
              try simp only [decide_eq_true_eq, decide_eq_false_iff_not, Bool.not_eq_true', Bool.not_eq_false', Bool.not_eq_true, Bool.not_eq_false, List.length_map, Int.ofNat_lt, Int.ofNat_le, Bool.or_eq_true, Bool.and_eq_true, Bool.or_eq_false_iff, Bool.and_eq_false_iff] at h6
              refine awp_skip ?_
              refine awp_seq ?_
              refine awp_seq ?_
              refine awp_region ?_
              refine st_p (fun _ => by exact y_fieldPtr (.plain rfl)) rfl ?_
              refine st_p (fun _ => by exact y_load (.plain rfl) (by first | exact .here | exact k1 | exact k2 | exact k3 | exact k4 | exact k5 | exact k6 | exact k7 | exact k8 | exact k9 | exact k10 | exact k11 | exact k12 | exact k13) rfl) rfl ?_
              first | refine st_p (fun _ => by exact y_lenN (.plain rfl)) rfl ?_ | refine st_p (fun _ => by exact y_len (.plain rfl)) rfl ?_ | refine st_p (fun _ => by exact y_lenArr (.plain rfl)) rfl ?_
              refine st_p (fun _ => by exact y_eql (.plain rfl) (.plain rfl)) rfl ?_
              refine st_p (fun _ => by exact y_move (.plain rfl)) rfl ?_
              refine st_g rfl rfl rfl SaysI.out (fun hc _ => by exact y_fieldPtr (.plain rfl)) rfl ?_
              refine st_g rfl rfl rfl SaysI.out (fun hc _ => by exact y_load (.opt rfl hc) (by first | exact .here | exact k1 | exact k2 | exact k3 | exact k4 | exact k5 | exact k6 | exact k7 | exact k8 | exact k9 | exact k10 | exact k11 | exact k12 | exact k13) rfl) rfl ?_
              refine st_g rfl rfl rfl SaysI.out (fun hc _ => by exact y_fieldPtr (.plain rfl)) rfl ?_
              refine st_g rfl rfl rfl SaysI.out (fun hc _ => by exact y_load (.opt rfl hc) (by first | exact .here | exact k1 | exact k2 | exact k3 | exact k4 | exact k5 | exact k6 | exact k7 | exact k8 | exact k9 | exact k10 | exact k11 | exact k12 | exact k13) rfl) rfl ?_
              refine st_g rfl rfl rfl SaysI.out (fun hc _ => by exact y_geq (.opt rfl hc) (.opt rfl hc)) rfl ?_
              refine st_p (fun _ => by exact y_and (.plain rfl) rfl rfl) rfl ?_
              refine aops_nil ?_
              refine awp_cond rfl (fun h7 => ?_) (fun h7 => ?_)
              · skip
                try simp only [decide_eq_true_eq, decide_eq_false_iff_not, Bool.not_eq_true', Bool.not_eq_false', Bool.not_eq_true, Bool.not_eq_false, List.length_map, Int.ofNat_lt, Int.ofNat_le, Bool.or_eq_true, Bool.and_eq_true, Bool.or_eq_false_iff, Bool.and_eq_false_iff] at h7
                refine awp_seq ?_
                refine awp_region ?_
                refine st_p (fun _ => by exact y_fieldPtr (.plain rfl)) rfl ?_
                refine st_p (fun _ => by exact y_load (.plain rfl) (by first | exact .here | exact k1 | exact k2 | exact k3 | exact k4 | exact k5 | exact k6 | exact k7 | exact k8 | exact k9 | exact k10 | exact k11 | exact k12 | exact k13) rfl) rfl ?_
                refine st_p (fun _ => by exact y_fieldPtr (.plain rfl)) rfl ?_
                refine st_p (fun _ => by exact y_load (.plain rfl) (by first | exact .here | exact k1 | exact k2 | exact k3 | exact k4 | exact k5 | exact k6 | exact k7 | exact k8 | exact k9 | exact k10 | exact k11 | exact k12 | exact k13) rfl) rfl ?_
                refine st_p (fun _ => by exact y_sub (.plain rfl) (.plain rfl) (by first | omega | (simp; omega) | (simp at hc; omega) | (simp at hc ⊢; omega) | (simp; done))) rfl ?_
                refine st_p (fun _ => by exact y_fieldPtr (.plain rfl)) rfl ?_
                refine st_storeN (cs' := [_, _, _, _, _, _, _, _, _]) (by rfl) rfl (.plain rfl) (.plain rfl) (by first | exact .here | exact u1 | exact u2 | exact u3 | exact u4 | exact u5 | exact u6 | exact u7 | exact u8 | exact u9 | exact u10 | exact u11 | exact u12 | exact u13) (le_ rfl) (by rfl) ?_
                refine aops_nil ?_
                refine awp_seq ?_
                refine awp_region ?_
                refine st_p (fun _ => by exact y_loadW (.plain rfl) (by first | exact .here | exact k1 | exact k2 | exact k3 | exact k4 | exact k5 | exact k6 | exact k7 | exact k8 | exact k9 | exact k10 | exact k11 | exact k12 | exact k13) (by rfl)) rfl ?_
                refine st_p (fun _ => by exact y_move (.plain rfl)) rfl ?_
                refine st_p (fun _ => by exact y_build (out := [_, _, _, _, _, _, _, _, _, _, _, _, _]) (.cons (.plain rfl) inferInstance rfl (.cons (.plain rfl) inferInstance rfl (.cons (.plain rfl) inferInstance rfl .nil))) rfl rfl) rfl ?_
                refine st_s (fun _ => by exact y_storeW (by rfl) rfl (.plain rfl) (.plain rfl) (by first | exact .here | exact u1 | exact u2 | exact u3 | exact u4 | exact u5 | exact u6 | exact u7 | exact u8 | exact u9 | exact u10 | exact u11 | exact u12 | exact u13) (by rfl)) ?_
                refine st_p (fun _ => by exact y_assign (.plain rfl)) rfl ?_
                refine aops_nil ?_
                refine awp_ret ?_
                refine retG (.inr rfl) (.cons (res_cellW rfl (by first | exact .here | exact k1 | exact k2 | exact k3 | exact k4 | exact k5 | exact k6 | exact k7 | exact k8 | exact k9 | exact k10 | exact k11 | exact k12 | exact k13) (by rfl)) (.cons (.tmp rfl) .nil)) (VShift.of2 (AV.Imp.tup (.cons (AV.Imp.agg (RowOf.imp (enc := encR))) (.cons (AV.Imp.refl _) .nil))) (.nil _)) ⟨congrArg (fun x : (Wl.Rp) × (Int) => (AV.tup [(AV.agg (encR x.1)), (AV.int x.2)])) (show (_, _) = (Lm.apply o s c) from ?_), rfl⟩
                rw [Lm.apply, if_neg (by omega), if_neg (by omega), Lm.doR, if_neg (by assumption), if_pos ⟨List.eq_nil_of_length_eq_zero (by omega), by omega⟩]
                all_goals rfl
              · skip
                try simp only [decide_eq_true_eq, decide_eq_false_iff_not, Bool.not_eq_true', Bool.not_eq_false', Bool.not_eq_true, Bool.not_eq_false, List.length_map, Int.ofNat_lt, Int.ofNat_le, Bool.or_eq_true, Bool.and_eq_true, Bool.or_eq_false_iff, Bool.and_eq_false_iff] at h7
                refine awp_skip ?_
                refine awp_seq ?_
                refine awp_anyT (ks := [.free, .free, .read, .write, .free, .free, .free, .free, .free, .free, .free, .free, .write, .free, .write]) [.cells n5 _] (by apply Takes.cons (by first | exact .here | exact k1 | exact k2 | exact k3 | exact k4 | exact k5 | exact k6 | exact k7 | exact k8 | exact k9 | exact k10 | exact k11 | exact k12 | exact k13); exact .nil _) (by kernel_rfl) (fun K => ?_) ?_
                · skip
                  refine dr_p (fun _ => by exact y_buildSlice .nil rfl (le_ rfl)) rfl ?_
                  refine dr_p (fun _ => by exact y_fieldPtr (.plain rfl)) rfl ?_
                  refine dr_r (fun _ => by exact y_load (.plain rfl) (by first | exact .here | exact k1 | exact k2 | exact k3 | exact k4 | exact k5 | exact k6 | exact k7 | exact k8 | exact k9 | exact k10 | exact k11 | exact k12 | exact k13) rfl) rfl ?_
                  first | refine dr_append (by rfl) (.plain rfl) (.plain rfl) (by first | (simp; try omega) | omega) rfl fun t6 => ?_ | refine dr_append0 (by rfl) (.plain rfl) (.plain rfl) (by first | (simp; try omega) | omega) rfl fun t6 => ?_ | refine dr_append0 (by rfl) (.imp (.plain rfl) AV.Imp.nil_grow) (.plain rfl) (by first | (simp; try omega) | omega) rfl fun t6 => ?_ | refine dr_append0 (by rfl) (.imp (.plain rfl) AV.Imp.full_grow) (.plain rfl) (by first | (simp; try omega) | omega) rfl fun t6 => ?_
                  refine dr_p (fun _ => by exact y_fieldPtr (.plain rfl)) rfl ?_
                  refine dr_p (fun _ => by exact y_load (.plain rfl) (by first | exact .here | exact k1 | exact k2 | exact k3 | exact k4 | exact k5 | exact k6 | exact k7 | exact k8 | exact k9 | exact k10 | exact k11 | exact k12 | exact k13) rfl) rfl ?_
                  refine dr_p (fun _ => by exact y_fieldPtr (.plain rfl)) rfl ?_
                  refine dr_p (fun _ => by exact y_load (.plain rfl) (by first | exact .here | exact k1 | exact k2 | exact k3 | exact k4 | exact k5 | exact k6 | exact k7 | exact k8 | exact k9 | exact k10 | exact k11 | exact k12 | exact k13) rfl) rfl ?_
                  refine dr_p (fun _ => by exact y_fieldPtr (.plain rfl)) rfl ?_
                  refine dr_p (fun _ => by exact y_load (.plain rfl) (by first | exact .here | exact k1 | exact k2 | exact k3 | exact k4 | exact k5 | exact k6 | exact k7 | exact k8 | exact k9 | exact k10 | exact k11 | exact k12 | exact k13) rfl) rfl ?_
                  refine dr_p (fun _ => by exact y_build (out := [_, _, _, _, _]) (.cons (.plain rfl) inferInstance rfl (.cons (.plain rfl) inferInstance rfl (.cons (.plain rfl) inferInstance rfl (.cons (.plain rfl) inferInstance rfl (.cons (.plain rfl) inferInstance rfl .nil))))) rfl rfl) rfl ?_
                  refine dr_p (fun _ => by exact y_buildSlice (.cons (.plain rfl) inferInstance (by rfl) .nil) rfl (le_ rfl)) rfl ?_
                  first | refine dr_append (by rfl) (.plain rfl) (.plain rfl) (by first | (simp; try omega) | omega) rfl fun t7 => ?_ | refine dr_append0 (by rfl) (.plain rfl) (.plain rfl) (by first | (simp; try omega) | omega) rfl fun t7 => ?_ | refine dr_append0 (by rfl) (.imp (.plain rfl) AV.Imp.nil_grow) (.plain rfl) (by first | (simp; try omega) | omega) rfl fun t7 => ?_ | refine dr_append0 (by rfl) (.imp (.plain rfl) AV.Imp.full_grow) (.plain rfl) (by first | (simp; try omega) | omega) rfl fun t7 => ?_
                  refine dr_p (fun _ => by exact y_fieldPtr (.plain rfl)) rfl ?_
                  refine dr_storeN (cs' := [_, _, _, _, _, _, _, _, _]) (by rfl) rfl (.plain rfl) (.plain rfl) (by first | exact .here | exact u1 | exact u2 | exact u3 | exact u4 | exact u5 | exact u6 | exact u7 | exact u8 | exact u9 | exact u10 | exact u11 | exact u12 | exact u13) (le_ rfl) (by rfl) ?_
                  refine dr_nil ?_
                  refine awp_seq ?_
                  refine awp_region ?_
                  refine st_p (fun _ => by exact y_loadW (.plain rfl) (by first | exact .here | exact k1 | exact k2 | exact k3 | exact k4 | exact k5 | exact k6 | exact k7 | exact k8 | exact k9 | exact k10 | exact k11 | exact k12 | exact k13) (by rfl)) rfl ?_
                  refine st_p (fun _ => by exact y_move (.plain rfl)) rfl ?_
                  refine st_p (fun _ => by exact y_build (out := [_, _, _, _, _, _, _, _, _, _, _, _, _]) (.cons (.plain rfl) inferInstance rfl (.cons (.plain rfl) inferInstance rfl (.cons (.plain rfl) inferInstance rfl .nil))) rfl rfl) rfl ?_
                  refine st_s (fun _ => by exact y_storeW (by rfl) rfl (.plain rfl) (.plain rfl) (by first | exact .here | exact u1 | exact u2 | exact u3 | exact u4 | exact u5 | exact u6 | exact u7 | exact u8 | exact u9 | exact u10 | exact u11 | exact u12 | exact u13) (by rfl)) ?_
                  refine st_p (fun _ => by exact y_assign (.plain rfl)) rfl ?_
                  refine aops_nil ?_
                  refine awp_ret ?_
                  refine retG (.inr rfl) (.cons (res_cellW rfl (by first | exact .here | exact k1 | exact k2 | exact k3 | exact k4 | exact k5 | exact k6 | exact k7 | exact k8 | exact k9 | exact k10 | exact k11 | exact k12 | exact k13) (by rfl)) (.cons (.tmp rfl) .nil)) (VShift.of2 (AV.Imp.tup (.cons (AV.Imp.agg (RowOf.imp (enc := encR))) (.cons (AV.Imp.refl _) .nil))) (.nil _)) ⟨congrArg (fun x : (Wl.Rp) × (Int) => (AV.tup [(AV.agg (encR x.1)), (AV.int x.2)])) (show (_, _) = (Lm.apply o s c) from ?_), rfl⟩
                  rw [Lm.apply, if_neg (by omega), if_neg (by omega), Lm.doR, if_neg (by assumption), if_neg (fun e => by simp [e.1] at *; try omega), Lm.waiter]
                  all_goals simp
                · kernel_rfl

theorem withdrawR_c (o : Ob) (s : St) (t : Int) (hs : smN 1000000 s) : ACalls Try.prog 31 [(AV.agg (encO o)), (AV.agg (encS s)), (AV.int t)] [] (fun v st => v = (AV.tup [(AV.agg (encR ((Lm.withdraw o s t).1))), (AV.int ((Lm.withdraw o s t).2))]) ∧ st = []) := by
  refine acalls_body Try.func31 (by kernel_rfl) rfl Try.ntmps31 (le_ rfl) ?_
  rw [Try.results31]
  refine awp_seq ?_
  refine awp_region ?_
  refine st_n (fun _ => by exact y_box (.plain rfl)) rfl fun n1 => ?_
  refine st_n (fun _ => by exact y_box (.plain rfl)) rfl fun n2 => ?_
  refine st_n (fun _ => by exact y_alloc) rfl fun n3 => ?_
  refine st_p (fun _ => by exact y_assign (.plain rfl)) rfl ?_
  refine aops_nil ?_
  refine awp_seq ?_
  refine awp_seq ?_
  refine awp_region ?_
  refine st_p (fun _ => by exact y_loadW (.plain rfl) (by first | exact .here | exact k1 | exact k2 | exact k3 | exact k4 | exact k5 | exact k6 | exact k7 | exact k8 | exact k9 | exact k10 | exact k11 | exact k12 | exact k13) (by rfl)) rfl ?_
  refine st_p (fun _ => by exact y_loadW (.plain rfl) (by first | exact .here | exact k1 | exact k2 | exact k3 | exact k4 | exact k5 | exact k6 | exact k7 | exact k8 | exact k9 | exact k10 | exact k11 | exact k12 | exact k13) (by rfl)) rfl ?_
  refine aops_call (blt_lt rfl) (.plain rfl) (.cons (.imp (.plain rfl) (AV.Imp.agg (RowOf.imp (enc := encO)))) (.cons (.imp (.plain rfl) (AV.Imp.agg (RowOf.imp (enc := encS)))) .nil)) (ACalls.here (lmchkR_c _ _ (by first | assumption | exact Sm.to (by omega) | exact Sm.q (by omega) | exact Lm.apply_wl (by omega) | exact Lm.withdraw_wl | omega | exact smN.le (by assumption) (by omega) | (simp at hc; omega) | (simp; omega))) ?_)
  refine st_p (fun _ => by exact y_assign (.plain rfl)) rfl ?_
  refine aops_nil ?_
  refine awp_seq ?_
  refine awp_region ?_
  refine st_p (fun _ => by exact y_move (.plain rfl)) rfl ?_
  refine st_p (fun _ => by exact y_neq (.plain rfl) (.plain rfl)) rfl ?_
  refine aops_nil ?_
  refine awp_cond rfl (fun h1 => ?_) (fun h1 => ?_)
  · skip
    try simp only [decide_eq_true_eq, decide_eq_false_iff_not, Bool.not_eq_true', Bool.not_eq_false', Bool.not_eq_true, Bool.not_eq_false, List.length_map, Int.ofNat_lt, Int.ofNat_le, Bool.or_eq_true, Bool.and_eq_true, Bool.or_eq_false_iff, Bool.and_eq_false_iff] at h1
    refine awp_seq ?_
    refine awp_region ?_
    refine st_p (fun _ => by exact y_build (out := [_, _, _, _, _, _, _, _, _, _, _, _, _]) .nil rfl rfl) rfl ?_
    refine st_p (fun _ => by exact y_move (.plain rfl)) rfl ?_
    refine st_s (fun _ => by exact y_storeW (by rfl) rfl (.plain rfl) (.plain rfl) (by first | exact .here | exact u1 | exact u2 | exact u3 | exact u4 | exact u5 | exact u6 | exact u7 | exact u8 | exact u9 | exact u10 | exact u11 | exact u12 | exact u13) (by rfl)) ?_
    refine st_p (fun _ => by exact y_assign (.plain rfl)) rfl ?_
    refine aops_nil ?_
    refine awp_ret ?_
    refine retG (.inr rfl) (.cons (res_cellW rfl (by first | exact .here | exact k1 | exact k2 | exact k3 | exact k4 | exact k5 | exact k6 | exact k7 | exact k8 | exact k9 | exact k10 | exact k11 | exact k12 | exact k13) (by rfl)) (.cons (.tmp rfl) .nil)) (VShift.of2 (AV.Imp.tup (.cons (AV.Imp.agg (RowOf.imp (enc := encR))) (.cons (AV.Imp.refl _) .nil))) (.nil _)) ⟨congrArg (fun x : (Wl.Rp) × (Int) => (AV.tup [(AV.agg (encR x.1)), (AV.int x.2)])) (show (_, _) = (Lm.withdraw o s t) from ?_), rfl⟩
    first
      | (show (R0, Lm.chk o s) = Lm.withdraw o s t
         rw [Lm.withdraw, if_pos h1])
      | (rw [Lm.withdraw, if_neg (by omega), if_pos (by simpa using h2)]; rfl)
      | (rw [Lm.withdraw, if_neg (by omega), if_neg (by simp [h2])]; rfl)
  · skip
    try simp only [decide_eq_true_eq, decide_eq_false_iff_not, Bool.not_eq_true', Bool.not_eq_false', Bool.not_eq_true, Bool.not_eq_false, List.length_map, Int.ofNat_lt, Int.ofNat_le, Bool.or_eq_true, Bool.and_eq_true, Bool.or_eq_false_iff, Bool.and_eq_false_iff] at h1
    refine awp_skip ?_
    refine awp_seq ?_
    refine awp_seq ?_
    refine awp_region ?_
    refine st_p (fun _ => by exact y_fieldPtr (.plain rfl)) rfl ?_
    refine st_p (fun _ => by exact y_load (.plain rfl) (by first | exact .here | exact k1 | exact k2 | exact k3 | exact k4 | exact k5 | exact k6 | exact k7 | exact k8 | exact k9 | exact k10 | exact k11 | exact k12 | exact k13) rfl) rfl ?_
    refine st_p (fun _ => by exact y_move (.plain rfl)) rfl ?_
    refine aops_call (blt_lt rfl) (.plain rfl) (.cons (.imp (.plain rfl) (Sl.imp (enc := encW))) (.cons (.plain rfl) .nil)) (ACalls.here (waits16_c s.queue t hs.q) ?_)
    refine st_p (fun _ => by exact y_not (.plain rfl)) rfl ?_
    refine aops_nil ?_
    refine awp_cond rfl (fun h2 => ?_) (fun h2 => ?_)
    · skip
      try simp only [decide_eq_true_eq, decide_eq_false_iff_not, Bool.not_eq_true', Bool.not_eq_false', Bool.not_eq_true, Bool.not_eq_false, List.length_map, Int.ofNat_lt, Int.ofNat_le, Bool.or_eq_true, Bool.and_eq_true, Bool.or_eq_false_iff, Bool.and_eq_false_iff] at h2
      refine awp_seq ?_
      refine awp_region ?_
      refine st_p (fun _ => by exact y_build (out := [_, _, _, _, _, _, _, _, _, _, _, _, _]) .nil rfl rfl) rfl ?_
      refine st_s (fun _ => by exact y_storeW (by rfl) rfl (.plain rfl) (.plain rfl) (by first | exact .here | exact u1 | exact u2 | exact u3 | exact u4 | exact u5 | exact u6 | exact u7 | exact u8 | exact u9 | exact u10 | exact u11 | exact u12 | exact u13) (by rfl)) ?_
      refine st_p (fun _ => by exact y_assign (.plain rfl)) rfl ?_
      refine aops_nil ?_
      refine awp_ret ?_
      refine retG (.inr rfl) (.cons (res_cellW rfl (by first | exact .here | exact k1 | exact k2 | exact k3 | exact k4 | exact k5 | exact k6 | exact k7 | exact k8 | exact k9 | exact k10 | exact k11 | exact k12 | exact k13) (by rfl)) (.cons (.tmp rfl) .nil)) (VShift.of2 (AV.Imp.tup (.cons (AV.Imp.agg (RowOf.imp (enc := encR))) (.cons (AV.Imp.refl _) .nil))) (.nil _)) ⟨congrArg (fun x : (Wl.Rp) × (Int) => (AV.tup [(AV.agg (encR x.1)), (AV.int x.2)])) (show (_, _) = (Lm.withdraw o s t) from ?_), rfl⟩
      first
        | (show (R0, Lm.chk o s) = Lm.withdraw o s t
           rw [Lm.withdraw, if_pos h1])
        | (rw [Lm.withdraw, if_neg (by omega), if_pos (by simpa using h2)]; rfl)
        | (rw [Lm.withdraw, if_neg (by omega), if_neg (by simp [h2])]; rfl)
    · skip
      try simp only [decide_eq_true_eq, decide_eq_false_iff_not, Bool.not_eq_true', Bool.not_eq_false', Bool.not_eq_true, Bool.not_eq_false, List.length_map, Int.ofNat_lt, Int.ofNat_le, Bool.or_eq_true, Bool.and_eq_true, Bool.or_eq_false_iff, Bool.and_eq_false_iff] at h2
      refine awp_skip ?_
      refine awp_seq ?_
      refine awp_region ?_
      refine st_p (fun _ => by exact y_fieldPtr (.plain rfl)) rfl ?_
      refine st_p (fun _ => by exact y_load (.plain rfl) (by first | exact .here | exact k1 | exact k2 | exact k3 | exact k4 | exact k5 | exact k6 | exact k7 | exact k8 | exact k9 | exact k10 | exact k11 | exact k12 | exact k13) rfl) rfl ?_
      refine st_p (fun _ => by exact y_move (.plain rfl)) rfl ?_
      refine aops_call (blt_lt rfl) (.plain rfl) (.cons (.imp (.plain rfl) (Sl.imp (enc := encW))) (.cons (.plain rfl) .nil)) (ACalls.here (without_c s.queue t hs.q) ?_)
      refine st_p (fun _ => by exact y_fieldPtr (.plain rfl)) rfl ?_
      refine st_storeN (cs' := [_, _, _, _, _, _, _, _, _]) (by rfl) rfl (.plain rfl) (.plain rfl) (by first | exact .here | exact u1 | exact u2 | exact u3 | exact u4 | exact u5 | exact u6 | exact u7 | exact u8 | exact u9 | exact u10 | exact u11 | exact u12 | exact u13) (le_ rfl) (by rfl) ?_
      refine aops_nil ?_
      refine awp_seq ?_
      refine awp_region ?_
      refine st_p (fun _ => by exact y_loadW (.plain rfl) (by first | exact .here | exact k1 | exact k2 | exact k3 | exact k4 | exact k5 | exact k6 | exact k7 | exact k8 | exact k9 | exact k10 | exact k11 | exact k12 | exact k13) (by rfl)) rfl ?_
      refine st_p (fun _ => by exact y_build (out := [_, _, _, _, _, _, _, _, _, _, _, _, _]) (.cons (.plain rfl) inferInstance rfl .nil) rfl rfl) rfl ?_
      refine st_s (fun _ => by exact y_storeW (by rfl) rfl (.plain rfl) (.plain rfl) (by first | exact .here | exact u1 | exact u2 | exact u3 | exact u4 | exact u5 | exact u6 | exact u7 | exact u8 | exact u9 | exact u10 | exact u11 | exact u12 | exact u13) (by rfl)) ?_
      refine st_p (fun _ => by exact y_assign (.plain rfl)) rfl ?_
      refine aops_nil ?_
      refine awp_ret ?_
      refine retG (.inr rfl) (.cons (res_cellW rfl (by first | exact .here | exact k1 | exact k2 | exact k3 | exact k4 | exact k5 | exact k6 | exact k7 | exact k8 | exact k9 | exact k10 | exact k11 | exact k12 | exact k13) (by rfl)) (.cons (.tmp rfl) .nil)) (VShift.of2 (AV.Imp.tup (.cons (AV.Imp.agg (RowOf.imp (enc := encR))) (.cons (AV.Imp.refl _) .nil))) (.nil _)) ⟨congrArg (fun x : (Wl.Rp) × (Int) => (AV.tup [(AV.agg (encR x.1)), (AV.int x.2)])) (show (_, _) = (Lm.withdraw o s t) from ?_), rfl⟩
      first
        | (show (R0, Lm.chk o s) = Lm.withdraw o s t
           rw [Lm.withdraw, if_pos h1])
        | (rw [Lm.withdraw, if_neg (by omega), if_pos (by simpa using h2)]; rfl)
        | (rw [Lm.withdraw, if_neg (by omega), if_neg (by simp [h2])]; rfl)

theorem readyR_c (o : Ob) (s : St) (c : Cl) (hs : smN 1000000 s) : ACalls Try.prog 20 [(AV.agg (encO o)), (AV.agg (encS s)), (AV.agg (encC c))] [] (fun v st => v = (AV.bool (Lm.ready o s c)) ∧ st = []) := by
  refine acalls_body Try.func20 (by kernel_rfl) rfl Try.ntmps20 (le_ rfl) ?_
  rw [Try.results20]
  refine awp_seq ?_
  refine awp_region ?_
  refine st_n (fun _ => by exact y_box (.plain rfl)) rfl fun n1 => ?_
  refine st_n (fun _ => by exact y_box (.plain rfl)) rfl fun n2 => ?_
  refine st_n (fun _ => by exact y_box (.plain rfl)) rfl fun n3 => ?_
  refine st_p (fun _ => by exact y_assign (.plain rfl)) rfl ?_
  refine aops_nil ?_
  refine awp_seq ?_
  refine awp_region ?_
  refine st_p (fun _ => by exact y_loadW (.plain rfl) (by first | exact .here | exact k1 | exact k2 | exact k3 | exact k4 | exact k5 | exact k6 | exact k7 | exact k8 | exact k9 | exact k10 | exact k11 | exact k12 | exact k13) (by rfl)) rfl ?_
  refine st_p (fun _ => by exact y_loadW (.plain rfl) (by first | exact .here | exact k1 | exact k2 | exact k3 | exact k4 | exact k5 | exact k6 | exact k7 | exact k8 | exact k9 | exact k10 | exact k11 | exact k12 | exact k13) (by rfl)) rfl ?_
  refine st_p (fun _ => by exact y_loadW (.plain rfl) (by first | exact .here | exact k1 | exact k2 | exact k3 | exact k4 | exact k5 | exact k6 | exact k7 | exact k8 | exact k9 | exact k10 | exact k11 | exact k12 | exact k13) (by rfl)) rfl ?_
  refine aops_call (blt_lt rfl) (.plain rfl) (.cons (.imp (.plain rfl) (AV.Imp.agg (RowOf.imp (enc := encO)))) (.cons (.imp (.plain rfl) (AV.Imp.agg (RowOf.imp (enc := encS)))) (.cons (.imp (.plain rfl) (AV.Imp.agg (RowOf.imp (enc := encC)))) .nil))) (ACalls.here (applyR_c _ _ _ (by first | assumption | exact Sm.to (by omega) | exact Sm.q (by omega) | exact Lm.apply_wl (by omega) | exact Lm.withdraw_wl | omega | exact smN.le (by assumption) (by omega) | (simp at hc; omega) | (simp; omega))) ?_)
  refine st_p (fun _ => by exact y_move (.plain rfl)) rfl ?_
  refine st_p (fun _ => by exact y_extract (.plain rfl) rfl) rfl ?_
  refine st_p (fun _ => by exact y_extract (.plain rfl) rfl) rfl ?_
  refine st_n (fun _ => by exact y_alloc) rfl fun n4 => ?_
  refine st_s (fun _ => by exact y_storeW (by rfl) rfl (.plain rfl) (.plain rfl) (by first | exact .here | exact u1 | exact u2 | exact u3 | exact u4 | exact u5 | exact u6 | exact u7 | exact u8 | exact u9 | exact u10 | exact u11 | exact u12 | exact u13) (by rfl)) ?_
  refine st_p (fun _ => by exact y_assign (.plain rfl)) rfl ?_
  refine aops_nil ?_
  refine awp_seq ?_
  refine awp_region ?_
  refine st_p (fun _ => by exact y_move (.plain rfl)) rfl ?_
  refine st_p (fun _ => by exact y_eql (.plain rfl) (.plain rfl)) rfl ?_
  refine st_p (fun _ => by exact y_move (.plain rfl)) rfl ?_
  refine st_g rfl rfl rfl SaysI.out (fun hc _ => by exact y_fieldPtr (.plain rfl)) rfl ?_
  refine st_g rfl rfl rfl SaysI.out (fun hc _ => by exact y_load (.opt rfl hc) (by first | exact .here | exact k1 | exact k2 | exact k3 | exact k4 | exact k5 | exact k6 | exact k7 | exact k8 | exact k9 | exact k10 | exact k11 | exact k12 | exact k13) rfl) rfl ?_
  refine st_g rfl rfl rfl SaysI.out (fun hc _ => by exact y_not (.opt rfl hc)) rfl ?_
  refine st_p (fun _ => by exact y_and (.plain rfl) rfl rfl) rfl ?_
  refine st_p (fun _ => by exact y_assign (.plain rfl)) rfl ?_
  refine aops_nil ?_
  refine awp_ret ?_
  refine retG (.inr rfl) (.cons (.tmp rfl) .nil) (VShift.of1 (AV.Imp.refl _) (.nil _)) ⟨congrArg (fun x : (Bool) => (AV.bool x)) (show _ = (Lm.ready o s c) from ?_), rfl⟩
  rfl

theorem dueR_c (o : Ob) (s : St) (hs : smN 1000000 s) : ACalls Try.prog 23 [(AV.agg (encO o)), (AV.agg (encS s))] [] (fun v st => v = (AV.tup [(AV.int (((Lm.dueI o s, Lm.dueB o s)).1)), (AV.bool (((Lm.dueI o s, Lm.dueB o s)).2))]) ∧ st = []) := by
  refine acalls_body Try.func23 (by kernel_rfl) rfl Try.ntmps23 (le_ rfl) ?_
  rw [Try.results23]
  refine awp_seq ?_
  refine awp_region ?_
  refine st_n (fun _ => by exact y_box (.plain rfl)) rfl fun n1 => ?_
  refine st_n (fun _ => by exact y_box (.plain rfl)) rfl fun n2 => ?_
  refine st_p (fun _ => by exact y_assign (.plain rfl)) rfl ?_
  refine st_p (fun _ => by exact y_assign (.plain rfl)) rfl ?_
  refine aops_nil ?_
  refine awp_seq ?_
  refine awp_seq ?_
  refine awp_region ?_
  refine st_p (fun _ => by exact y_loadW (.plain rfl) (by first | exact .here | exact k1 | exact k2 | exact k3 | exact k4 | exact k5 | exact k6 | exact k7 | exact k8 | exact k9 | exact k10 | exact k11 | exact k12 | exact k13) (by rfl)) rfl ?_
  refine st_p (fun _ => by exact y_loadW (.plain rfl) (by first | exact .here | exact k1 | exact k2 | exact k3 | exact k4 | exact k5 | exact k6 | exact k7 | exact k8 | exact k9 | exact k10 | exact k11 | exact k12 | exact k13) (by rfl)) rfl ?_
  refine aops_call (blt_lt rfl) (.plain rfl) (.cons (.imp (.plain rfl) (AV.Imp.agg (RowOf.imp (enc := encO)))) (.cons (.imp (.plain rfl) (AV.Imp.agg (RowOf.imp (enc := encS)))) .nil)) (ACalls.here (lmchkR_c _ _ (by first | assumption | exact Sm.to (by omega) | exact Sm.q (by omega) | exact Lm.apply_wl (by omega) | exact Lm.withdraw_wl | omega | exact smN.le (by assumption) (by omega) | (simp at hc; omega) | (simp; omega))) ?_)
  refine st_p (fun _ => by exact y_neq (.plain rfl) (.plain rfl)) rfl ?_
  refine st_p (fun _ => by exact y_move (.plain rfl)) rfl ?_
  refine st_g rfl rfl rfl SaysI.out (fun hc _ => by exact y_fieldPtr (.plain rfl)) rfl ?_
  refine st_g rfl rfl rfl SaysI.out (fun hc _ => by exact y_load (.opt rfl hc) (by first | exact .here | exact k1 | exact k2 | exact k3 | exact k4 | exact k5 | exact k6 | exact k7 | exact k8 | exact k9 | exact k10 | exact k11 | exact k12 | exact k13) rfl) rfl ?_
  first | refine st_g rfl rfl rfl SaysI.out (fun hc _ => by exact y_lenN (.opt rfl hc)) rfl ?_ | refine st_g rfl rfl rfl SaysI.out (fun hc _ => by exact y_len (.opt rfl hc)) rfl ?_ | refine st_g rfl rfl rfl SaysI.out (fun hc _ => by exact y_lenArr (.opt rfl hc)) rfl ?_
  refine st_g rfl rfl rfl SaysI.out (fun hc _ => by exact y_eql (.opt rfl hc) (.plain rfl)) rfl ?_
  refine st_p (fun _ => by exact y_or (.plain rfl) rfl rfl) rfl ?_
  refine aops_nil ?_
  refine awp_cond rfl (fun h1 => ?_) (fun h1 => ?_)
  · skip
    try simp only [decide_eq_true_eq, decide_eq_false_iff_not, Bool.not_eq_true', Bool.not_eq_false', Bool.not_eq_true, Bool.not_eq_false, List.length_map, Int.ofNat_lt, Int.ofNat_le, Bool.or_eq_true, Bool.and_eq_true, Bool.or_eq_false_iff, Bool.and_eq_false_iff] at h1
    refine awp_seq ?_
    refine awp_region ?_
    refine st_p (fun _ => by exact y_assign (.plain rfl)) rfl ?_
    refine st_p (fun _ => by exact y_assign (.plain rfl)) rfl ?_
    refine aops_nil ?_
    refine awp_ret ?_
    refine retG (.inr rfl) (.cons (.tmp rfl) (.cons (.tmp rfl) .nil)) (VShift.of2 (AV.Imp.tup (.cons (AV.Imp.refl _) (.cons (AV.Imp.refl _) .nil))) (.nil _)) ⟨congrArg (fun x : (Int) × (Bool) => (AV.tup [(AV.int x.1), (AV.bool x.2)])) (show (_, _) = ((Lm.dueI o s, Lm.dueB o s)) from ?_), rfl⟩
    have hd : Lm.chk o s ≠ 0 ∨ s.queue.length = 0 := by
      rcases h1 with h | h
      · exact .inl h
      · exact .inr (by omega)
    rw [Lm.dueI, if_pos hd, Lm.dueB]
    rcases hd with h | h <;> simp [h]
  · skip
    try simp only [decide_eq_true_eq, decide_eq_false_iff_not, Bool.not_eq_true', Bool.not_eq_false', Bool.not_eq_true, Bool.not_eq_false, List.length_map, Int.ofNat_lt, Int.ofNat_le, Bool.or_eq_true, Bool.and_eq_true, Bool.or_eq_false_iff, Bool.and_eq_false_iff] at h1
    refine awp_skip ?_
    refine awp_seq ?_
    have hq0 : 0 < s.queue.length := by omega
    obtain ⟨d1, d2⟩ := Lm.due_bd (o := o) (s := s) h1.1 hq0
    obtain ⟨d3, d4, d5⟩ := Lm.okk_bd h1.1
    have hvq := Lm.due_v h1.1 hq0
    have hdq := Lm.due_eq h1.1 hq0
    refine awp_any0 (ks := [.free, .free, .free, .free, .free, .free, .free, .free, .free]) (by kernel_rfl) (fun K => ?_) ?_
    · skip
      refine dr_p (fun _ => by exact y_fieldPtr (.plain rfl)) rfl ?_
      refine dr_p (fun _ => by exact y_load (.plain rfl) (by first | exact .here | exact k1 | exact k2 | exact k3 | exact k4 | exact k5 | exact k6 | exact k7 | exact k8 | exact k9 | exact k10 | exact k11 | exact k12 | exact k13) rfl) rfl ?_
      first | refine dr_p (fun _ => by exact y_indexMap (.plain rfl) (.plain rfl) rfl (by refine ⟨?_, ?_⟩; (first | omega | (simp; omega) | (simp at hc; omega) | (simp at hc ⊢; omega) | (simp; done)); rfl)) rfl ?_ | refine dr_p (fun _ => by exact y_indexT (.plain rfl) (.plain rfl) (by first | omega | (simp; omega) | (simp at hc; omega) | (simp at hc ⊢; omega) | (simp; done)) (by first | omega | (simp; omega) | (simp at hc; omega) | (simp at hc ⊢; omega) | (simp; done))) rfl ?_ | refine dr_p (fun _ => by exact y_index (.plain rfl) (.plain rfl) (by omega) rfl) rfl ?_ | refine dr_p (fun _ => by exact y_indexArr (.plain rfl) (.plain rfl) rfl (by first | omega | (simp; omega) | (simp at hc; omega) | (simp at hc ⊢; omega) | (simp; done))) rfl ?_
      refine dr_p (fun _ => by exact y_fieldE (.plain rfl) (le_ rfl)) rfl ?_
      refine dr_p (fun _ => by exact y_loadE (.plain rfl) rfl) rfl ?_
      refine dr_p (fun _ => by exact y_fieldPtr (.plain rfl)) rfl ?_
      refine dr_p (fun _ => by exact y_load (.plain rfl) (by first | exact .here | exact k1 | exact k2 | exact k3 | exact k4 | exact k5 | exact k6 | exact k7 | exact k8 | exact k9 | exact k10 | exact k11 | exact k12 | exact k13) rfl) rfl ?_
      refine dr_p (fun _ => by exact y_sub (.plain rfl) (.plain rfl) (by first | omega | (simp; omega) | (simp at hc; omega) | (simp at hc ⊢; omega) | (simp; done))) rfl ?_
      refine dr_p (fun _ => by exact y_assign (.plain rfl)) rfl ?_
      refine dr_nil ⟨rfl, ?_⟩
      refine awp_seq ?_
      refine awp_seq ?_
      refine awp_region ?_
      refine st_p (fun _ => by exact y_move (.plain rfl)) rfl ?_
      refine st_p (fun _ => by exact y_leq (.plain rfl) (.plain rfl)) rfl ?_
      refine aops_nil ?_
      refine awp_cond rfl (fun h2 => ?_) (fun h2 => ?_)
      · skip
        try simp only [decide_eq_true_eq, decide_eq_false_iff_not, Bool.not_eq_true', Bool.not_eq_false', Bool.not_eq_true, Bool.not_eq_false, List.length_map, Int.ofNat_lt, Int.ofNat_le, Bool.or_eq_true, Bool.and_eq_true, Bool.or_eq_false_iff, Bool.and_eq_false_iff] at h2
        refine awp_seq ?_
        refine awp_region ?_
        refine st_p (fun _ => by exact y_fieldPtr (.plain rfl)) rfl ?_
        refine st_p (fun _ => by exact y_load (.plain rfl) (by first | exact .here | exact k1 | exact k2 | exact k3 | exact k4 | exact k5 | exact k6 | exact k7 | exact k8 | exact k9 | exact k10 | exact k11 | exact k12 | exact k13) rfl) rfl ?_
        refine st_p (fun _ => by exact y_assign (.plain rfl)) rfl ?_
        refine st_p (fun _ => by exact y_assign (.plain rfl)) rfl ?_
        refine aops_nil ?_
        refine awp_ret ?_
        refine retG (.inr rfl) (.cons (.tmp rfl) (.cons (.tmp rfl) .nil)) (VShift.of2 (AV.Imp.tup (.cons (AV.Imp.refl _) (.cons (AV.Imp.refl _) .nil))) (.nil _)) ⟨congrArg (fun x : (Int) × (Bool) => (AV.tup [(AV.int x.1), (AV.bool x.2)])) (show (_, _) = ((Lm.dueI o s, Lm.dueB o s)) from ?_), rfl⟩
        rw [hdq.1, hdq.2, show max (0 : Int) (s.queue[0].value - s.count) = 0 by omega]; simp
      · skip
        try simp only [decide_eq_true_eq, decide_eq_false_iff_not, Bool.not_eq_true', Bool.not_eq_false', Bool.not_eq_true, Bool.not_eq_false, List.length_map, Int.ofNat_lt, Int.ofNat_le, Bool.or_eq_true, Bool.and_eq_true, Bool.or_eq_false_iff, Bool.and_eq_false_iff] at h2
        rw [show max (0 : Int) (s.queue[0].value - s.count) = s.queue[0].value - s.count by omega] at d1 d2
        refine awp_skip ?_
        refine awp_seq ?_
        refine awp_region ?_
        refine st_p (fun _ => by exact y_fieldPtr (.plain rfl)) rfl ?_
        refine st_p (fun _ => by exact y_load (.plain rfl) (by first | exact .here | exact k1 | exact k2 | exact k3 | exact k4 | exact k5 | exact k6 | exact k7 | exact k8 | exact k9 | exact k10 | exact k11 | exact k12 | exact k13) rfl) rfl ?_
        refine st_p (fun _ => by exact y_move (.plain rfl)) rfl ?_
        refine st_p (fun _ => by exact y_fieldPtr (.plain rfl)) rfl ?_
        refine st_p (fun _ => by exact y_load (.plain rfl) (by first | exact .here | exact k1 | exact k2 | exact k3 | exact k4 | exact k5 | exact k6 | exact k7 | exact k8 | exact k9 | exact k10 | exact k11 | exact k12 | exact k13) rfl) rfl ?_
        refine st_p (fun _ => by exact y_mul (.plain rfl) (.plain rfl) (by first | omega | (simp; omega) | (simp at hc; omega) | (simp at hc ⊢; omega) | (simp; done))) rfl ?_
        refine st_p (fun _ => by exact y_add (.plain rfl) (.plain rfl) (by first | omega | (simp; omega) | (simp at hc; omega) | (simp at hc ⊢; omega) | (simp; done))) rfl ?_
        refine st_p (fun _ => by exact y_assign (.plain rfl)) rfl ?_
        refine st_p (fun _ => by exact y_assign (.plain rfl)) rfl ?_
        refine aops_nil ?_
        refine awp_ret ?_
        refine retG (.inr rfl) (.cons (.tmp rfl) (.cons (.tmp rfl) .nil)) (VShift.of2 (AV.Imp.tup (.cons (AV.Imp.refl _) (.cons (AV.Imp.refl _) .nil))) (.nil _)) ⟨congrArg (fun x : (Int) × (Bool) => (AV.tup [(AV.int x.1), (AV.bool x.2)])) (show (_, _) = ((Lm.dueI o s, Lm.dueB o s)) from ?_), rfl⟩
        rw [hdq.1, hdq.2, show max (0 : Int) (s.queue[0].value - s.count) = s.queue[0].value - s.count by omega]
    · kernel_rfl

theorem tokensR_c (o : Ob) (s : St) (now : Int) (hs : smN 1000000 s) : ACalls Try.prog 25 [(AV.agg (encO o)), (AV.agg (encS s)), (AV.int now)] [] (fun v st => v = (AV.tup [(AV.int (((Lm.tokI o s now, Lm.tokE o s now)).1)), (AV.int (((Lm.tokI o s now, Lm.tokE o s now)).2))]) ∧ st = []) := by
  refine acalls_body Try.func25 (by kernel_rfl) rfl Try.ntmps25 (le_ rfl) ?_
  rw [Try.results25]
  refine awp_seq ?_
  refine awp_region ?_
  refine st_n (fun _ => by exact y_box (.plain rfl)) rfl fun n1 => ?_
  refine st_n (fun _ => by exact y_box (.plain rfl)) rfl fun n2 => ?_
  refine st_p (fun _ => by exact y_assign (.plain rfl)) rfl ?_
  refine st_p (fun _ => by exact y_assign (.plain rfl)) rfl ?_
  refine aops_nil ?_
  refine awp_seq ?_
  refine awp_seq ?_
  refine awp_region ?_
  refine st_p (fun _ => by exact y_loadW (.plain rfl) (by first | exact .here | exact k1 | exact k2 | exact k3 | exact k4 | exact k5 | exact k6 | exact k7 | exact k8 | exact k9 | exact k10 | exact k11 | exact k12 | exact k13) (by rfl)) rfl ?_
  refine st_p (fun _ => by exact y_loadW (.plain rfl) (by first | exact .here | exact k1 | exact k2 | exact k3 | exact k4 | exact k5 | exact k6 | exact k7 | exact k8 | exact k9 | exact k10 | exact k11 | exact k12 | exact k13) (by rfl)) rfl ?_
  refine aops_call (blt_lt rfl) (.plain rfl) (.cons (.imp (.plain rfl) (AV.Imp.agg (RowOf.imp (enc := encO)))) (.cons (.imp (.plain rfl) (AV.Imp.agg (RowOf.imp (enc := encS)))) .nil)) (ACalls.here (lmchkR_c _ _ (by first | assumption | exact Sm.to (by omega) | exact Sm.q (by omega) | exact Lm.apply_wl (by omega) | exact Lm.withdraw_wl | omega | exact smN.le (by assumption) (by omega) | (simp at hc; omega) | (simp; omega))) ?_)
  refine st_p (fun _ => by exact y_assign (.plain rfl)) rfl ?_
  refine aops_nil ?_
  refine awp_seq ?_
  refine awp_region ?_
  refine st_p (fun _ => by exact y_move (.plain rfl)) rfl ?_
  refine st_p (fun _ => by exact y_neq (.plain rfl) (.plain rfl)) rfl ?_
  refine aops_nil ?_
  refine awp_cond rfl (fun h1 => ?_) (fun h1 => ?_)
  · skip
    try simp only [decide_eq_true_eq, decide_eq_false_iff_not, Bool.not_eq_true', Bool.not_eq_false', Bool.not_eq_true, Bool.not_eq_false, List.length_map, Int.ofNat_lt, Int.ofNat_le, Bool.or_eq_true, Bool.and_eq_true, Bool.or_eq_false_iff, Bool.and_eq_false_iff] at h1
    refine awp_seq ?_
    refine awp_region ?_
    refine st_p (fun _ => by exact y_move (.plain rfl)) rfl ?_
    refine st_p (fun _ => by exact y_assign (.plain rfl)) rfl ?_
    refine st_p (fun _ => by exact y_assign (.plain rfl)) rfl ?_
    refine aops_nil ?_
    refine awp_ret ?_
    refine retG (.inr rfl) (.cons (.tmp rfl) (.cons (.tmp rfl) .nil)) (VShift.of2 (AV.Imp.tup (.cons (AV.Imp.refl _) (.cons (AV.Imp.refl _) .nil))) (.nil _)) ⟨congrArg (fun x : (Int) × (Int) => (AV.tup [(AV.int x.1), (AV.int x.2)])) (show (_, _) = ((Lm.tokI o s now, Lm.tokE o s now)) from ?_), rfl⟩
    show ((0 : Int), Lm.chk o s) = _
    have e1 : Lm.tokI o s now = 0 := by rw [Lm.tokI, if_pos h1]
    have e2 : Lm.tokE o s now = Lm.chk o s := by rw [Lm.tokE, if_pos h1]
    rw [e1, e2]
  · skip
    try simp only [decide_eq_true_eq, decide_eq_false_iff_not, Bool.not_eq_true', Bool.not_eq_false', Bool.not_eq_true, Bool.not_eq_false, List.length_map, Int.ofNat_lt, Int.ofNat_le, Bool.or_eq_true, Bool.and_eq_true, Bool.or_eq_false_iff, Bool.and_eq_false_iff] at h1
    refine awp_skip ?_
    refine awp_seq ?_
    refine awp_seq ?_
    refine awp_region ?_
    refine st_p (fun _ => by exact y_move (.plain rfl)) rfl ?_
    refine st_p (fun _ => by exact y_fieldPtr (.plain rfl)) rfl ?_
    refine st_p (fun _ => by exact y_load (.plain rfl) (by first | exact .here | exact k1 | exact k2 | exact k3 | exact k4 | exact k5 | exact k6 | exact k7 | exact k8 | exact k9 | exact k10 | exact k11 | exact k12 | exact k13) rfl) rfl ?_
    refine st_p (fun _ => by exact y_lss (.plain rfl) (.plain rfl)) rfl ?_
    refine st_p (fun _ => by exact y_move (.plain rfl)) rfl ?_
    refine st_g rfl rfl rfl SaysI.out (fun hc _ => by exact y_move (.plain rfl)) rfl ?_
    refine st_g rfl rfl rfl SaysI.out (fun hc _ => by exact y_gtr (.opt rfl hc) (.plain rfl)) rfl ?_
    refine st_p (fun _ => by exact y_or (.plain rfl) rfl rfl) rfl ?_
    refine aops_nil ?_
    refine awp_cond rfl (fun h2 => ?_) (fun h2 => ?_)
    · skip
      try simp only [decide_eq_true_eq, decide_eq_false_iff_not, Bool.not_eq_true', Bool.not_eq_false', Bool.not_eq_true, Bool.not_eq_false, List.length_map, Int.ofNat_lt, Int.ofNat_le, Bool.or_eq_true, Bool.and_eq_true, Bool.or_eq_false_iff, Bool.and_eq_false_iff] at h2
      refine awp_seq ?_
      refine awp_region ?_
      refine st_p (fun _ => by exact y_assign (.plain rfl)) rfl ?_
      refine st_p (fun _ => by exact y_assign (.plain rfl)) rfl ?_
      refine aops_nil ?_
      refine awp_ret ?_
      refine retG (.inr rfl) (.cons (.tmp rfl) (.cons (.tmp rfl) .nil)) (VShift.of2 (AV.Imp.tup (.cons (AV.Imp.refl _) (.cons (AV.Imp.refl _) .nil))) (.nil _)) ⟨congrArg (fun x : (Int) × (Int) => (AV.tup [(AV.int x.1), (AV.int x.2)])) (show (_, _) = ((Lm.tokI o s now, Lm.tokE o s now)) from ?_), rfl⟩
      have e1 : Lm.tokI o s now = 0 := by rw [Lm.tokI, if_neg (by omega), if_pos h2]
      have e2 : Lm.tokE o s now = 2 := by rw [Lm.tokE, if_neg (by omega), if_pos h2]
      rw [e1, e2]
    · skip
      try simp only [decide_eq_true_eq, decide_eq_false_iff_not, Bool.not_eq_true', Bool.not_eq_false', Bool.not_eq_true, Bool.not_eq_false, List.length_map, Int.ofNat_lt, Int.ofNat_le, Bool.or_eq_true, Bool.and_eq_true, Bool.or_eq_false_iff, Bool.and_eq_false_iff] at h2
      have hk := Lm.okk (by omega : Lm.chk o s = 0)
      have hks := hk.size
      refine awp_skip ?_
      refine awp_seq ?_
      refine awp_region ?_
      refine st_p (fun _ => by exact y_loadW (.plain rfl) (by first | exact .here | exact k1 | exact k2 | exact k3 | exact k4 | exact k5 | exact k6 | exact k7 | exact k8 | exact k9 | exact k10 | exact k11 | exact k12 | exact k13) (by rfl)) rfl ?_
      refine st_p (fun _ => by exact y_loadW (.plain rfl) (by first | exact .here | exact k1 | exact k2 | exact k3 | exact k4 | exact k5 | exact k6 | exact k7 | exact k8 | exact k9 | exact k10 | exact k11 | exact k12 | exact k13) (by rfl)) rfl ?_
      refine st_p (fun _ => by exact y_move (.plain rfl)) rfl ?_
      refine aops_call (blt_lt rfl) (.plain rfl) (.cons (.imp (.plain rfl) (AV.Imp.agg (RowOf.imp (enc := encO)))) (.cons (.imp (.plain rfl) (AV.Imp.agg (RowOf.imp (enc := encS)))) (.cons (.plain rfl) .nil))) (ACalls.here (refillR_c o s now hk.other.1 ⟨by omega, by omega⟩ hk.count ⟨by omega, by omega⟩ hk.time.1) ?_)
      refine st_p (fun _ => by exact y_field (.plain rfl) rfl) rfl ?_
      refine st_p (fun _ => by exact y_assign (.plain rfl)) rfl ?_
      refine st_p (fun _ => by exact y_assign (.plain rfl)) rfl ?_
      refine aops_nil ?_
      refine awp_ret ?_
      refine retG (.inr rfl) (.cons (.tmp rfl) (.cons (.tmp rfl) .nil)) (VShift.of2 (AV.Imp.tup (.cons (AV.Imp.refl _) (.cons (AV.Imp.refl _) .nil))) (.nil _)) ⟨congrArg (fun x : (Int) × (Int) => (AV.tup [(AV.int x.1), (AV.int x.2)])) (show (_, _) = ((Lm.tokI o s now, Lm.tokE o s now)) from ?_), rfl⟩
      have e1 : Lm.tokI o s now = (Lm.refill o s now).count := by rw [Lm.tokI, if_neg (by omega), if_neg (by omega)]
      have e2 : Lm.tokE o s now = 0 := by rw [Lm.tokE, if_neg (by omega), if_neg (by omega)]
      rw [e1, e2]

theorem take_c (t n m : Int)  : ACalls Try.prog 32 [(AV.int t), (AV.int n), (AV.int m)] [] (fun v st => v = (AV.agg (encC (Lm.takeC t n m))) ∧ st = []) := by
  refine acalls_body Try.func32 (by kernel_rfl) rfl Try.ntmps32 (le_ rfl) ?_
  rw [Try.results32]
  refine awp_seq ?_
  refine awp_region ?_
  refine st_n (fun _ => by exact y_alloc) rfl fun n1 => ?_
  refine aops_nil ?_
  refine awp_seq ?_
  refine awp_region ?_
  refine st_p (fun _ => by exact y_move (.plain rfl)) rfl ?_
  refine st_p (fun _ => by exact y_move (.plain rfl)) rfl ?_
  refine st_p (fun _ => by exact y_move (.plain rfl)) rfl ?_
  refine st_p (fun _ => by exact y_build (out := [_, _, _, _, _]) (.cons (.plain rfl) inferInstance rfl (.cons (.plain rfl) inferInstance rfl (.cons (.plain rfl) inferInstance rfl (.cons (.plain rfl) inferInstance rfl .nil)))) rfl rfl) rfl ?_
  refine st_s (fun _ => by exact y_storeW (by rfl) rfl (.plain rfl) (.plain rfl) (by first | exact .here | exact u1 | exact u2 | exact u3 | exact u4 | exact u5 | exact u6 | exact u7 | exact u8 | exact u9 | exact u10 | exact u11 | exact u12 | exact u13) (by rfl)) ?_
  refine aops_nil ?_
  refine awp_ret ?_
  refine retG (.inr rfl) (.cons (res_cellW rfl (by first | exact .here | exact k1 | exact k2 | exact k3 | exact k4 | exact k5 | exact k6 | exact k7 | exact k8 | exact k9 | exact k10 | exact k11 | exact k12 | exact k13) (by rfl)) .nil) (VShift.of1 (AV.Imp.agg (RowOf.imp (enc := encC))) (.nil _)) ⟨congrArg (fun x : (Wl.Cl) => (AV.agg (encC x))) (show _ = (Lm.takeC t n m) from ?_), rfl⟩
  rfl

theorem refill_c (m : Int)  : ACalls Try.prog 29 [(AV.int m)] [] (fun v st => v = (AV.agg (encC (Lm.refC m))) ∧ st = []) := by
  refine acalls_body Try.func29 (by kernel_rfl) rfl Try.ntmps29 (le_ rfl) ?_
  rw [Try.results29]
  refine awp_seq ?_
  refine awp_region ?_
  refine st_n (fun _ => by exact y_alloc) rfl fun n1 => ?_
  refine aops_nil ?_
  refine awp_seq ?_
  refine awp_region ?_
  refine st_p (fun _ => by exact y_move (.plain rfl)) rfl ?_
  refine st_p (fun _ => by exact y_build (out := [_, _, _, _, _]) (.cons (.plain rfl) inferInstance rfl (.cons (.plain rfl) inferInstance rfl .nil)) rfl rfl) rfl ?_
  refine st_s (fun _ => by exact y_storeW (by rfl) rfl (.plain rfl) (.plain rfl) (by first | exact .here | exact u1 | exact u2 | exact u3 | exact u4 | exact u5 | exact u6 | exact u7 | exact u8 | exact u9 | exact u10 | exact u11 | exact u12 | exact u13) (by rfl)) ?_
  refine aops_nil ?_
  refine awp_ret ?_
  refine retG (.inr rfl) (.cons (res_cellW rfl (by first | exact .here | exact k1 | exact k2 | exact k3 | exact k4 | exact k5 | exact k6 | exact k7 | exact k8 | exact k9 | exact k10 | exact k11 | exact k12 | exact k13) (by rfl)) .nil) (VShift.of1 (AV.Imp.agg (RowOf.imp (enc := encC))) (.nil _)) ⟨congrArg (fun x : (Wl.Cl) => (AV.agg (encC x))) (show _ = (Lm.refC m) from ?_), rfl⟩
  rfl

theorem awake_c   : ACalls Try.prog 13 [] [] (fun v st => v = (AV.bool (true)) ∧ st = []) := by
  refine acalls_body Try.func13 (by kernel_rfl) rfl Try.ntmps13 (le_ rfl) ?_
  rw [Try.results13]
  refine awp_seq ?_
  refine awp_region ?_
  refine st_p (fun _ => by exact y_assign (.plain rfl)) rfl ?_
  refine aops_nil ?_
  refine awp_seq ?_
  refine awp_region ?_
  refine st_p (fun _ => by exact y_build (out := [_, _, _, _]) (.cons (.plain rfl) inferInstance rfl (.cons (.plain rfl) inferInstance rfl (.cons (.plain rfl) inferInstance rfl .nil))) rfl rfl) rfl ?_
  refine st_n (fun _ => by exact y_alloc) rfl fun n1 => ?_
  refine st_s (fun _ => by exact y_storeW (by rfl) rfl (.plain rfl) (.plain rfl) (by first | exact .here | exact u1 | exact u2 | exact u3 | exact u4 | exact u5 | exact u6 | exact u7 | exact u8 | exact u9 | exact u10 | exact u11 | exact u12 | exact u13) (by rfl)) ?_
  refine aops_nil ?_
  refine awp_seq ?_
  refine awp_region ?_
  refine st_p (fun _ => by exact y_loadW (.plain rfl) (by first | exact .here | exact k1 | exact k2 | exact k3 | exact k4 | exact k5 | exact k6 | exact k7 | exact k8 | exact k9 | exact k10 | exact k11 | exact k12 | exact k13) (by rfl)) rfl ?_
  refine aops_call (blt_lt rfl) (.plain rfl) (.cons (.imp (.plain rfl) (AV.Imp.agg (RowOf.imp (enc := encO)))) .nil) (ACalls.here (new_c _) ?_)
  refine st_p (fun _ => by exact y_move (.plain rfl)) rfl ?_
  refine st_p (fun _ => by exact y_extract (.plain rfl) rfl) rfl ?_
  refine st_p (fun _ => by exact y_extract (.plain rfl) rfl) rfl ?_
  refine st_n (fun _ => by exact y_alloc) rfl fun n2 => ?_
  refine st_s (fun _ => by exact y_storeW (by rfl) rfl (.plain rfl) (.plain rfl) (by first | exact .here | exact u1 | exact u2 | exact u3 | exact u4 | exact u5 | exact u6 | exact u7 | exact u8 | exact u9 | exact u10 | exact u11 | exact u12 | exact u13) (by rfl)) ?_
  refine st_p (fun _ => by exact y_assign (.plain rfl)) rfl ?_
  refine aops_nil ?_
  refine awp_seq ?_
  refine awp_anyT (ks := [.free, .free, .free, .free, .free, .free, .free, .new, .write, .free]) [] (.nil _) (by kernel_rfl) (fun K => ?_) ?_
  · skip
    refine dr_p (fun _ => by exact y_loadW (.plain rfl) (by first | exact .here | exact k1 | exact k2 | exact k3 | exact k4 | exact k5 | exact k6 | exact k7 | exact k8 | exact k9 | exact k10 | exact k11 | exact k12 | exact k13) (by rfl)) rfl ?_
    refine dr_p (fun _ => by exact y_loadW (.plain rfl) (by first | exact .here | exact k1 | exact k2 | exact k3 | exact k4 | exact k5 | exact k6 | exact k7 | exact k8 | exact k9 | exact k10 | exact k11 | exact k12 | exact k13) (by rfl)) rfl ?_
    refine dr_p (fun _ => by exact y_call (.plain rfl) (.cons (.plain rfl) (.cons (.plain rfl) (.cons (.plain rfl) .nil))) (ACalls.pure (take_c _ _ _))) rfl ?_
    refine dr_p (fun _ => by exact y_call (.plain rfl) (.cons (.imp (.plain rfl) (AV.Imp.agg (RowOf.imp (enc := encO)))) (.cons (.imp (.plain rfl) (AV.Imp.agg (RowOf.imp (enc := encS)))) (.cons (.imp (.plain rfl) (AV.Imp.agg (RowOf.imp (enc := encC)))) .nil))) (ACalls.pure (apply_c _ _ _ (by decide +kernel)))) rfl ?_
    refine dr_p (fun _ => by exact y_move (.plain rfl)) rfl ?_
    refine dr_p (fun _ => by exact y_extract (.plain rfl) rfl) rfl ?_
    refine dr_p (fun _ => by exact y_extract (.plain rfl) rfl) rfl ?_
    refine dr_new (fun _ _ => by exact y_alloc) rfl fun n3 => ?_
    refine dr_s (fun _ => by exact y_storeW (by rfl) rfl (.plain rfl) (.plain rfl) (by first | exact .here | exact u1 | exact u2 | exact u3 | exact u4 | exact u5 | exact u6 | exact u7 | exact u8 | exact u9 | exact u10 | exact u11 | exact u12 | exact u13) (by rfl)) ?_
    refine dr_p (fun _ => by exact y_assign (.plain rfl)) rfl ?_
    refine dr_nil ?_
    refine awp_seq ?_
    refine awp_anyT (ks := [.free, .free, .free, .free, .free, .free, .free, .free, .new, .write, .free]) [] (.nil _) (by kernel_rfl) (fun K => ?_) ?_
    · skip
      refine dr_p (fun _ => by exact y_loadW (.plain rfl) (by first | exact .here | exact k1 | exact k2 | exact k3 | exact k4 | exact k5 | exact k6 | exact k7 | exact k8 | exact k9 | exact k10 | exact k11 | exact k12 | exact k13) (by rfl)) rfl ?_
      refine dr_p (fun _ => by exact y_fieldPtr (.plain rfl)) rfl ?_
      refine dr_p (fun _ => by exact y_loadAggN (cs' := [_, _, _, _, _, _, _, _, _]) (.plain rfl) (by first | exact .here | exact k1 | exact k2 | exact k3 | exact k4 | exact k5 | exact k6 | exact k7 | exact k8 | exact k9 | exact k10 | exact k11 | exact k12 | exact k13) (le_ rfl) (by rfl)) rfl ?_
      refine dr_p (fun _ => by exact y_call (.plain rfl) (.cons (.plain rfl) (.cons (.plain rfl) (.cons (.plain rfl) .nil))) (ACalls.pure (take_c _ _ _))) rfl ?_
      refine dr_p (fun _ => by exact y_call (.plain rfl) (.cons (.imp (.plain rfl) (AV.Imp.agg (RowOf.imp (enc := encO)))) (.cons (.imp (.plain rfl) (AV.Imp.agg (RowOf.imp (enc := encS)))) (.cons (.imp (.plain rfl) (AV.Imp.agg (RowOf.imp (enc := encC)))) .nil))) (ACalls.pure (apply_c _ _ _ (by decide +kernel)))) rfl ?_
      refine dr_p (fun _ => by exact y_move (.plain rfl)) rfl ?_
      refine dr_p (fun _ => by exact y_extract (.plain rfl) rfl) rfl ?_
      refine dr_p (fun _ => by exact y_extract (.plain rfl) rfl) rfl ?_
      refine dr_new (fun _ _ => by exact y_alloc) rfl fun n4 => ?_
      refine dr_s (fun _ => by exact y_storeW (by rfl) rfl (.plain rfl) (.plain rfl) (by first | exact .here | exact u1 | exact u2 | exact u3 | exact u4 | exact u5 | exact u6 | exact u7 | exact u8 | exact u9 | exact u10 | exact u11 | exact u12 | exact u13) (by rfl)) ?_
      refine dr_p (fun _ => by exact y_assign (.plain rfl)) rfl ?_
      refine dr_nil ?_
      refine awp_seq ?_
      refine awp_region ?_
      refine st_p (fun _ => by exact y_loadW (.plain rfl) (by first | exact .here | exact k1 | exact k2 | exact k3 | exact k4 | exact k5 | exact k6 | exact k7 | exact k8 | exact k9 | exact k10 | exact k11 | exact k12 | exact k13) (by rfl)) rfl ?_
      refine st_p (fun _ => by exact y_fieldPtr (.plain rfl)) rfl ?_
      refine st_p (fun _ => by exact y_loadAggN (cs' := [_, _, _, _, _, _, _, _, _]) (.plain rfl) (by first | exact .here | exact k1 | exact k2 | exact k3 | exact k4 | exact k5 | exact k6 | exact k7 | exact k8 | exact k9 | exact k10 | exact k11 | exact k12 | exact k13) (le_ rfl) (by rfl)) rfl ?_
      refine aops_call (blt_lt rfl) (.plain rfl) (.cons (.imp (.plain rfl) (AV.Imp.agg (RowOf.imp (enc := encO)))) (.cons (.imp (.plain rfl) (AV.Imp.agg (RowOf.imp (enc := encS)))) .nil)) (ACalls.here (due_c _ _ (by decide +kernel)) ?_)
      refine st_p (fun _ => by exact y_move (.plain rfl)) rfl ?_
      refine st_p (fun _ => by exact y_extract (.plain rfl) rfl) rfl ?_
      refine st_p (fun _ => by exact y_extract (.plain rfl) rfl) rfl ?_
      refine st_p (fun _ => by exact y_assign (.plain rfl)) rfl ?_
      refine st_p (fun _ => by exact y_assign (.plain rfl)) rfl ?_
      refine aops_nil ?_
      refine awp_seq ?_
      refine awp_anyT (ks := [.free, .free, .free, .free, .free, .free, .free, .free, .new, .write, .free]) [] (.nil _) (by kernel_rfl) (fun K => ?_) ?_
      · skip
        refine dr_p (fun _ => by exact y_loadW (.plain rfl) (by first | exact .here | exact k1 | exact k2 | exact k3 | exact k4 | exact k5 | exact k6 | exact k7 | exact k8 | exact k9 | exact k10 | exact k11 | exact k12 | exact k13) (by rfl)) rfl ?_
        refine dr_p (fun _ => by exact y_fieldPtr (.plain rfl)) rfl ?_
        refine dr_p (fun _ => by exact y_loadAggN (cs' := [_, _, _, _, _, _, _, _, _]) (.plain rfl) (by first | exact .here | exact k1 | exact k2 | exact k3 | exact k4 | exact k5 | exact k6 | exact k7 | exact k8 | exact k9 | exact k10 | exact k11 | exact k12 | exact k13) (le_ rfl) (by rfl)) rfl ?_
        refine dr_p (fun _ => by exact y_call (.plain rfl) (.cons (.plain rfl) .nil) (ACalls.pure (refill_c _))) rfl ?_
        refine dr_p (fun _ => by exact y_call (.plain rfl) (.cons (.imp (.plain rfl) (AV.Imp.agg (RowOf.imp (enc := encO)))) (.cons (.imp (.plain rfl) (AV.Imp.agg (RowOf.imp (enc := encS)))) (.cons (.imp (.plain rfl) (AV.Imp.agg (RowOf.imp (enc := encC)))) .nil))) (ACalls.pure (apply_c _ _ _ (by decide +kernel)))) rfl ?_
        refine dr_p (fun _ => by exact y_move (.plain rfl)) rfl ?_
        refine dr_p (fun _ => by exact y_extract (.plain rfl) rfl) rfl ?_
        refine dr_p (fun _ => by exact y_extract (.plain rfl) rfl) rfl ?_
        refine dr_new (fun _ _ => by exact y_alloc) rfl fun n5 => ?_
        refine dr_s (fun _ => by exact y_storeW (by rfl) rfl (.plain rfl) (.plain rfl) (by first | exact .here | exact u1 | exact u2 | exact u3 | exact u4 | exact u5 | exact u6 | exact u7 | exact u8 | exact u9 | exact u10 | exact u11 | exact u12 | exact u13) (by rfl)) ?_
        refine dr_p (fun _ => by exact y_assign (.plain rfl)) rfl ?_
        refine dr_nil ?_
        refine awp_seq ?_
        refine awp_region ?_
        refine st_p (fun _ => by exact y_move (.plain rfl)) rfl ?_
        refine st_p (fun _ => by exact y_eql (.plain rfl) (.plain rfl)) rfl ?_
        refine st_p (fun _ => by exact y_move (.plain rfl)) rfl ?_
        refine st_g rfl rfl rfl SaysI.out (fun hc _ => by exact y_move (.plain rfl)) rfl ?_
        refine st_g rfl rfl rfl SaysI.out (fun hc _ => by exact y_eql (.opt rfl hc) (.plain rfl)) rfl ?_
        refine st_p (fun _ => by exact y_and (.plain rfl) rfl rfl) rfl ?_
        refine st_p (fun _ => by exact y_move (.plain rfl)) rfl ?_
        refine st_g rfl rfl rfl SaysI.out (fun hc _ => by exact y_move (.plain rfl)) rfl ?_
        refine st_g rfl rfl rfl SaysI.out (fun hc _ => by exact y_eql (.opt rfl hc) (.plain rfl)) rfl ?_
        refine st_p (fun _ => by exact y_and (.plain rfl) rfl rfl) rfl ?_
        refine st_p (fun _ => by exact y_move (.plain rfl)) rfl ?_
        refine st_g rfl rfl rfl SaysI.out (fun hc _ => by exact y_move (.plain rfl)) rfl ?_
        refine st_g rfl rfl rfl SaysI.out (fun hc _ => by exact y_eql (.opt rfl hc) (.plain rfl)) rfl ?_
        refine st_p (fun _ => by exact y_and (.plain rfl) rfl rfl) rfl ?_
        refine st_p (fun _ => by exact y_move (.plain rfl)) rfl ?_
        refine st_g rfl rfl rfl SaysI.out (fun hc _ => by exact y_fieldPtr (.plain rfl)) rfl ?_
        refine st_g rfl rfl rfl SaysI.out (fun hc _ => by exact y_load (.opt rfl hc) (by first | exact .here | exact k1 | exact k2 | exact k3 | exact k4 | exact k5 | exact k6 | exact k7 | exact k8 | exact k9 | exact k10 | exact k11 | exact k12 | exact k13) rfl) rfl ?_
        refine st_g rfl rfl rfl SaysI.out (fun hc _ => by exact y_eql (.opt rfl hc) (.plain rfl)) rfl ?_
        refine st_p (fun _ => by exact y_and (.plain rfl) rfl rfl) rfl ?_
        refine st_p (fun _ => by exact y_move (.plain rfl)) rfl ?_
        refine st_g rfl rfl rfl SaysI.out (fun hc _ => by exact y_fieldPtr (.plain rfl)) rfl ?_
        refine st_g rfl rfl rfl SaysI.out (fun hc _ => by exact y_load (.opt rfl hc) (by first | exact .here | exact k1 | exact k2 | exact k3 | exact k4 | exact k5 | exact k6 | exact k7 | exact k8 | exact k9 | exact k10 | exact k11 | exact k12 | exact k13) rfl) rfl ?_
        refine st_p (fun _ => by exact y_and (.plain rfl) rfl rfl) rfl ?_
        refine st_p (fun _ => by exact y_move (.plain rfl)) rfl ?_
        refine st_g rfl rfl rfl SaysI.out (fun hc _ => by exact y_fieldPtr (.plain rfl)) rfl ?_
        refine st_g rfl rfl rfl SaysI.out (fun hc _ => by exact y_fieldPtr (.opt rfl hc)) rfl ?_
        refine st_g rfl rfl rfl SaysI.out (fun hc _ => by exact y_load (.opt rfl hc) (by first | exact .here | exact k1 | exact k2 | exact k3 | exact k4 | exact k5 | exact k6 | exact k7 | exact k8 | exact k9 | exact k10 | exact k11 | exact k12 | exact k13) rfl) rfl ?_
        refine st_g rfl rfl rfl SaysI.out (fun hc _ => by exact y_eql (.opt rfl hc) (.plain rfl)) rfl ?_
        refine st_p (fun _ => by exact y_and (.plain rfl) rfl rfl) rfl ?_
        refine st_p (fun _ => by exact y_move (.plain rfl)) rfl ?_
        refine st_g rfl rfl rfl SaysI.out (fun hc _ => by exact y_fieldPtr (.plain rfl)) rfl ?_
        refine st_g rfl rfl rfl SaysI.out (fun hc _ => by exact y_load (.opt rfl hc) (by first | exact .here | exact k1 | exact k2 | exact k3 | exact k4 | exact k5 | exact k6 | exact k7 | exact k8 | exact k9 | exact k10 | exact k11 | exact k12 | exact k13) rfl) rfl ?_
        refine st_p (fun _ => by exact y_and (.plain rfl) rfl rfl) rfl ?_
        refine st_p (fun _ => by exact y_move (.plain rfl)) rfl ?_
        refine st_g rfl rfl rfl SaysI.out (fun hc _ => by exact y_move (.plain rfl)) rfl ?_
        refine st_p (fun _ => by exact y_and (.plain rfl) rfl rfl) rfl ?_
        refine st_p (fun _ => by exact y_move (.plain rfl)) rfl ?_
        refine st_g rfl rfl rfl SaysI.out (fun hc _ => by exact y_move (.plain rfl)) rfl ?_
        refine st_g rfl rfl rfl SaysI.out (fun hc _ => by exact y_eql (.opt rfl hc) (.plain rfl)) rfl ?_
        refine st_p (fun _ => by exact y_and (.plain rfl) rfl rfl) rfl ?_
        refine st_p (fun _ => by exact y_move (.plain rfl)) rfl ?_
        refine st_g rfl rfl rfl SaysI.out (fun hc _ => by exact y_fieldPtr (.plain rfl)) rfl ?_
        refine st_g rfl rfl rfl SaysI.out (fun hc _ => by exact y_load (.opt rfl hc) (by first | exact .here | exact k1 | exact k2 | exact k3 | exact k4 | exact k5 | exact k6 | exact k7 | exact k8 | exact k9 | exact k10 | exact k11 | exact k12 | exact k13) rfl) rfl ?_
        first | refine st_g rfl rfl rfl SaysI.out (fun hc _ => by exact y_lenN (.opt rfl hc)) rfl ?_ | refine st_g rfl rfl rfl SaysI.out (fun hc _ => by exact y_len (.opt rfl hc)) rfl ?_ | refine st_g rfl rfl rfl SaysI.out (fun hc _ => by exact y_lenArr (.opt rfl hc)) rfl ?_
        refine st_g rfl rfl rfl SaysI.out (fun hc _ => by exact y_eql (.opt rfl hc) (.plain rfl)) rfl ?_
        refine st_p (fun _ => by exact y_and (.plain rfl) rfl rfl) rfl ?_
        refine st_p (fun _ => by exact y_move (.plain rfl)) rfl ?_
        refine st_g rfl rfl rfl SaysI.out (fun hc _ => by exact y_fieldPtr (.plain rfl)) rfl ?_
        refine st_g rfl rfl rfl SaysI.out (fun hc _ => by exact y_load (.opt rfl hc) (by first | exact .here | exact k1 | exact k2 | exact k3 | exact k4 | exact k5 | exact k6 | exact k7 | exact k8 | exact k9 | exact k10 | exact k11 | exact k12 | exact k13) rfl) rfl ?_
        first | refine st_g rfl rfl rfl SaysI.out (fun hc _ => by exact y_indexMap (.opt rfl hc) (.plain rfl) rfl (by refine ⟨?_, ?_⟩; (first | omega | (simp; omega) | (simp at hc; omega) | (simp at hc ⊢; omega) | (simp; done)); rfl)) rfl ?_ | refine st_g rfl rfl rfl SaysI.out (fun hc _ => by exact y_indexT (.opt rfl hc) (.plain rfl) (by first | omega | (simp; omega) | (simp at hc; omega) | (simp at hc ⊢; omega) | (simp; done)) (by first | omega | (simp; omega) | (simp at hc; omega) | (simp at hc ⊢; omega) | (simp; done))) rfl ?_ | refine st_g rfl rfl rfl SaysI.out (fun hc _ => by exact y_index (.opt rfl hc) (.plain rfl) (by omega) rfl) rfl ?_ | refine st_g rfl rfl rfl SaysI.out (fun hc _ => by exact y_indexArr (.opt rfl hc) (.plain rfl) rfl (by first | omega | (simp; omega) | (simp at hc; omega) | (simp at hc ⊢; omega) | (simp; done))) rfl ?_
        first | refine st_g rfl rfl rfl SaysI.out (fun hc _ => by exact y_loadEW (.opt rfl hc) (by rfl)) rfl ?_ | refine st_g rfl rfl rfl SaysI.out (fun hc _ => by exact y_loadEAggN (cs' := [_, _, _, _, _]) (.opt rfl hc) (le_ rfl) rfl) rfl ?_
        refine st_g rfl rfl rfl SaysI.out (fun hc _ => by exact y_build (out := [_, _, _, _, _]) (.cons (.plain rfl) inferInstance rfl (.cons (.plain rfl) inferInstance rfl (.cons (.plain rfl) inferInstance rfl (.cons (.plain rfl) inferInstance rfl .nil)))) rfl rfl) rfl ?_
        refine st_g rfl rfl rfl SaysI.out (fun hc _ => by exact y_eqStruct (.opt rfl hc) (.opt rfl hc) (.int (k' := .i64) (by kernel_rfl) (.int (k' := .i64) (by kernel_rfl) (.int (k' := .i64) (by kernel_rfl) (.bool (by kernel_rfl) (.int (k' := .i64) (by kernel_rfl) .nil)))))) rfl ?_
        refine st_p (fun _ => by exact y_and (.plain rfl) rfl rfl) rfl ?_
        refine st_p (fun _ => by exact y_move (.plain rfl)) rfl ?_
        refine st_g rfl rfl rfl SaysI.out (fun hc _ => by exact y_fieldPtr (.plain rfl)) rfl ?_
        refine st_g rfl rfl rfl SaysI.out (fun hc _ => by exact y_fieldPtr (.opt rfl hc)) rfl ?_
        refine st_g rfl rfl rfl SaysI.out (fun hc _ => by exact y_load (.opt rfl hc) (by first | exact .here | exact k1 | exact k2 | exact k3 | exact k4 | exact k5 | exact k6 | exact k7 | exact k8 | exact k9 | exact k10 | exact k11 | exact k12 | exact k13) rfl) rfl ?_
        refine st_g rfl rfl rfl SaysI.out (fun hc _ => by exact y_eql (.opt rfl hc) (.plain rfl)) rfl ?_
        refine st_p (fun _ => by exact y_and (.plain rfl) rfl rfl) rfl ?_
        refine st_p (fun _ => by exact y_assign (.plain rfl)) rfl ?_
        refine aops_nil ?_
        refine awp_ret ?_
        refine retG (.inr rfl) (.cons (.tmp rfl) .nil) (VShift.of1 (AV.Imp.refl _) (.nil _)) ⟨congrArg (fun x : (Bool) => (AV.bool x)) (show _ = (true) from ?_), rfl⟩
        decide +kernel
      · kernel_rfl
    · kernel_rfl
  · kernel_rfl

theorem ownK : ownKnob Try.prog.godebug = none := by kernel_rfl
theorem laidK : laidOutB Try.prog = true := by kernel_rfl
theorem rdI : RdT Try.prog 3 (fun n : Int => [AV.int n]) (okI) := RdT.i64 Try.underlying3
theorem rdU : RdT Try.prog 5 (fun n : Int => [AV.val (.int .u8 n)]) (fun n => 0 ≤ n ∧ n ≤ 255) := RdT.u8 Try.underlying5
theorem rdB : RdT Try.prog 4 (fun b : Bool => [AV.bool b]) (fun _ => True) := RdT.bool Try.underlying4
theorem rdL : RdT Try.prog 25 (fun l : List (Int) => [AV.sl 1 (l.map encI)]) (fun l => ∀ a ∈ l, okI a) := RdT.slice rdI inferInstance
theorem rdW : RdT Try.prog 44 encW okW :=
  RdT.map (RdT.struct Try.underlying44 (.cons (s := 1) (RdT.i64 Try.underlying3) rfl (by kernel_rfl) (.cons (s := 1) (RdT.i64 Try.underlying3) rfl (by kernel_rfl) (.cons (s := 1) (RdT.i64 Try.underlying3) rfl (by kernel_rfl) (.cons (s := 1) (RdT.i64 Try.underlying3) rfl (by kernel_rfl) (.cons (s := 1) (RdT.i64 Try.underlying3) rfl (by kernel_rfl) .nil))))) (by kernel_rfl)) (fun x => (⟨x.1, x.2.1, x.2.2.1, x.2.2.2.1, x.2.2.2.2.1⟩ : W)) (fun _ => rfl) (fun _ h => ⟨h.1, h.2.1, h.2.2.1, h.2.2.2.1, h.2.2.2.2.1⟩)
theorem rdCu : RdT Try.prog 70 encCur okCur :=
  RdT.map (RdT.struct Try.underlying70 (.cons (s := 1) (RdT.i64 Try.underlying3) rfl (by kernel_rfl) (.cons (s := 1) (RdT.slice rdI inferInstance) rfl (by kernel_rfl) .nil)) (by kernel_rfl)) (fun x => (⟨x.1, x.2.1⟩ : Cur)) (fun _ => rfl) (fun _ h => ⟨h.1, h.2.1⟩)
theorem rdS : RdT Try.prog 29 encS okS :=
  RdT.map (RdT.struct Try.underlying29 (.cons (s := 1) (RdT.i64 Try.underlying3) rfl (by kernel_rfl) (.cons (s := 1) (RdT.i64 Try.underlying3) rfl (by kernel_rfl) (.cons (s := 1) (RdT.i64 Try.underlying3) rfl (by kernel_rfl) (.cons (s := 1) (RdT.slice rdI inferInstance) rfl (by kernel_rfl) (.cons (s := 1) (RdT.slice rdW inferInstance) rfl (by kernel_rfl) (.cons (s := 1) (RdT.slice rdI inferInstance) rfl (by kernel_rfl) (.cons (s := 1) (RdT.slice rdCu inferInstance) rfl (by kernel_rfl) (.cons (s := 1) (RdT.bool Try.underlying4) rfl (by kernel_rfl) (.cons (s := 1) (RdT.i64 Try.underlying3) rfl (by kernel_rfl) .nil))))))))) (by kernel_rfl)) (fun x => (⟨x.1, x.2.1, x.2.2.1, x.2.2.2.1, x.2.2.2.2.1, x.2.2.2.2.2.1, x.2.2.2.2.2.2.1, x.2.2.2.2.2.2.2.1, x.2.2.2.2.2.2.2.2.1⟩ : St)) (fun _ => rfl) (fun _ h => ⟨h.1, h.2.1, h.2.2.1, h.2.2.2.1, h.2.2.2.2.1, h.2.2.2.2.2.1, h.2.2.2.2.2.2.1, h.2.2.2.2.2.2.2.2.1⟩)
theorem rdO : RdT Try.prog 23 encO okO :=
  RdT.map (RdT.struct Try.underlying23 (.cons (s := 1) (RdT.string Try.underlying9) rfl (by kernel_rfl) (.cons (s := 1) (RdT.i64 Try.underlying3) rfl (by kernel_rfl) (.cons (s := 1) (RdT.i64 Try.underlying3) rfl (by kernel_rfl) (.cons (s := 1) (RdT.i64 Try.underlying3) rfl (by kernel_rfl) .nil)))) (by kernel_rfl)) (fun x => (⟨x.1, x.2.1, x.2.2.1, x.2.2.2.1⟩ : Ob)) (fun _ => rfl) (fun _ h => ⟨h.2.1, h.2.2.1, h.2.2.2.1⟩)
theorem rdC : RdT Try.prog 35 encC okC :=
  RdT.map (RdT.struct Try.underlying35 (.cons (s := 1) (RdT.i64 Try.underlying3) rfl (by kernel_rfl) (.cons (s := 1) (RdT.i64 Try.underlying3) rfl (by kernel_rfl) (.cons (s := 1) (RdT.i64 Try.underlying3) rfl (by kernel_rfl) (.cons (s := 1) (RdT.i64 Try.underlying3) rfl (by kernel_rfl) (.cons (s := 1) (RdT.i64 Try.underlying3) rfl (by kernel_rfl) .nil))))) (by kernel_rfl)) (fun x => (⟨x.1, x.2.1, x.2.2.1, x.2.2.2.1, x.2.2.2.2.1⟩ : Cl)) (fun _ => rfl) (fun _ h => ⟨h.1, h.2.1, h.2.2.1, h.2.2.2.1, h.2.2.2.2.1⟩)
theorem rdP : RdT Try.prog 24 (fun l : List (Cl) => [AV.sl 5 (l.map encC)]) (fun l => ∀ a ∈ l, okC a) := RdT.slice rdC inferInstance
end Go.Proofs
