/- The contracts of the shared functions. -/
import Derived.Test.YtkaiilhpjmjnkaaTy03
import Derived.Test.YtkaiilhpjmjnkaaM03
import Derived.Test.YtkaiilhpjmjnkaaAwC
set_option linter.unusedVariables false
set_option linter.unusedSimpArgs false
set_option maxRecDepth 10000
namespace Go.Proofs
open Go.Aw Wl Dg
theorem indexI_c (l : List Int) (t : Int) (hl : l.length ≤ 1000000) : ACalls Try.prog 46 [(AV.sl 1 (List.map encI l)), (AV.int t)] [] (fun v st => v = (AV.int (idxI l t)) ∧ st = []) := by
  refine acalls_body Try.func46 (by kernel_rfl) rfl Try.ntmps46 (le_ rfl) ?_
  rw [Try.results46]
  refine awp_seq ?_
  refine awp_region ?_
  refine st_p (fun _ => by exact y_assign (.plain rfl)) rfl ?_
  refine aops_nil ?_
  refine awp_seq ?_
  refine awp_seq ?_
  refine awp_region ?_
  refine st_p (fun _ => by exact y_move (.plain rfl)) rfl ?_
  first | refine st_p (fun _ => by exact y_lenN (.plain rfl)) rfl ?_ | refine st_p (fun _ => by exact y_len (.plain rfl)) rfl ?_ | refine st_p (fun _ => by exact y_lenArr (.plain rfl)) rfl ?_
  refine st_p (fun _ => by exact y_move (.plain rfl)) rfl ?_
  refine aops_nil ?_
  refine awp_block ?_
  refine awp_loop2 (X := Nat) [0, 1, 7] (.cons rfl (.cons rfl (.cons rfl .nil))) (fun σ x => ((8, .int (x : Int)) : Nat × AV) :: σ) (fun R x => R) (fun x => x ≤ l.length ∧ (∀ i (h : i < l.length), i < x → l[i] ≠ t)) (fun x => l.length - x) 0 (by exact Weak.of2 (by (repeat (first | exact .nil _ | refine .cons rfl (by first | exact AV.Imp.refl _ | exact Sl.imp | exact AV.Imp.agg RowOf.imp | exact AV.Imp.grow_sl | exact AV.Imp.nil_grow | exact AV.Imp.full_grow | exact AV.Imp.own_grow | exact AV.Imp.grow_of rfl | exact AV.Imp.sl_of rfl | exact AV.Imp.int_of (by omega) | exact AV.Imp.of_eq (by first | omega | simpa)) ?_)); done) (by (repeat (first | exact .refl _ | exact .nil _ | apply ItLe2.cons (by first | exact .here | exact k1 | exact k2 | exact k3 | exact k4 | exact k5 | exact k6 | exact k7 | exact k8 | exact k9 | exact k10 | exact k11 | exact k12 | exact k13) | apply ItLe2.cells (by first | exact .here | exact k1 | exact k2 | exact k3 | exact k4 | exact k5 | exact k6 | exact k7 | exact k8 | exact k9 | exact k10 | exact k11 | exact k12 | exact k13) (by repeat (first | exact .nil | refine .cons (by first | exact AV.Imp.refl _ | exact Sl.imp | exact AV.Imp.agg RowOf.imp | exact AV.Imp.grow_sl | exact AV.Imp.nil_grow | exact AV.Imp.full_grow | exact AV.Imp.own_grow | exact AV.Imp.grow_of rfl | exact AV.Imp.sl_of rfl | exact AV.Imp.int_of (by omega) | exact AV.Imp.of_eq (by first | omega | simpa)) ?_)) | apply ItLe2.tail0)); done)) ⟨Nat.zero_le _, by omega⟩ ?_
  rintro k ⟨hk, hinv⟩
  refine awp_seq ?_
  refine awp_region ?_
  refine st_p (fun _ => by exact y_lss (.plain rfl) (.plain rfl)) rfl ?_
  refine aops_nil ?_
  refine awp_seq ?_
  refine awp_cond rfl (fun h1 => ?_) (fun h1 => ?_)
  · skip
    try simp only [decide_eq_true_eq, decide_eq_false_iff_not, Bool.not_eq_true', Bool.not_eq_false', Bool.not_eq_true, Bool.not_eq_false, List.length_map, Int.ofNat_lt, Int.ofNat_le, Bool.or_eq_true, Bool.and_eq_true, Bool.or_eq_false_iff, Bool.and_eq_false_iff] at h1
    refine awp_skip ?_
    refine awp_seq ?_
    refine awp_block ?_
    refine awp_seq ?_
    refine awp_region ?_
    refine st_p (fun _ => by exact y_move (.plain rfl)) rfl ?_
    refine st_p (fun _ => by exact y_assign (.plain rfl)) rfl ?_
    refine aops_nil ?_
    refine awp_seq ?_
    refine awp_region ?_
    refine st_p (fun _ => by exact y_move (.plain rfl)) rfl ?_
    refine st_p (fun _ => by exact y_move (.plain rfl)) rfl ?_
    refine st_p (fun _ => by exact y_move (.plain rfl)) rfl ?_
    first | refine st_p (fun _ => by exact y_indexMap (.plain rfl) (.plain rfl) rfl (by refine ⟨?_, ?_⟩; (first | omega | (simp; omega) | (simp at hc; omega) | (simp at hc ⊢; omega) | (simp; done)); rfl)) rfl ?_ | refine st_p (fun _ => by exact y_indexT (.plain rfl) (.plain rfl) (by first | omega | (simp; omega) | (simp at hc; omega) | (simp at hc ⊢; omega) | (simp; done)) (by first | omega | (simp; omega) | (simp at hc; omega) | (simp at hc ⊢; omega) | (simp; done))) rfl ?_ | refine st_p (fun _ => by exact y_index (.plain rfl) (.plain rfl) (by omega) rfl) rfl ?_ | refine st_p (fun _ => by exact y_indexArr (.plain rfl) (.plain rfl) rfl (by first | omega | (simp; omega) | (simp at hc; omega) | (simp at hc ⊢; omega) | (simp; done))) rfl ?_
    refine st_p (fun _ => by exact y_loadE (.plain rfl) rfl) rfl ?_
    refine st_p (fun _ => by exact y_eql (.plain rfl) (.plain rfl)) rfl ?_
    refine aops_nil ?_
    refine awp_cond rfl (fun h2 => ?_) (fun h2 => ?_)
    · skip
      try simp only [decide_eq_true_eq, decide_eq_false_iff_not, Bool.not_eq_true', Bool.not_eq_false', Bool.not_eq_true, Bool.not_eq_false, List.length_map, Int.ofNat_lt, Int.ofNat_le, Bool.or_eq_true, Bool.and_eq_true, Bool.or_eq_false_iff, Bool.and_eq_false_iff] at h2
      refine awp_seq ?_
      refine awp_region ?_
      refine st_p (fun _ => by exact y_move (.plain rfl)) rfl ?_
      refine st_p (fun _ => by exact y_assign (.plain rfl)) rfl ?_
      refine aops_nil ?_
      refine awp_ret ?_
      refine retG (.inr rfl) (.cons (.tmp rfl) .nil) (VShift.of1 (AV.Imp.refl _) (.nil _)) ⟨congrArg (fun x : (Int) => (AV.int x)) (show _ = (idxI l t) from ?_), rfl⟩
      exact (idxI_at l t k h1 h2.symm hinv).symm
    · skip
      try simp only [decide_eq_true_eq, decide_eq_false_iff_not, Bool.not_eq_true', Bool.not_eq_false', Bool.not_eq_true, Bool.not_eq_false, List.length_map, Int.ofNat_lt, Int.ofNat_le, Bool.or_eq_true, Bool.and_eq_true, Bool.or_eq_false_iff, Bool.and_eq_false_iff] at h2
      refine awp_skip ?_
      refine awp_region ?_
      refine st_p (fun _ => by exact y_add (.plain rfl) (.plain rfl) (by first | omega | (simp; omega) | (simp at hc; omega) | (simp at hc ⊢; omega) | (simp; done))) rfl ?_
      refine st_p (fun _ => by exact y_move (.plain rfl)) rfl ?_
      refine aops_nil ?_
      refine ⟨k + 1, ?_, ?_, Weak.of2 (by (repeat (first | exact .nil _ | refine .cons rfl (by first | exact AV.Imp.refl _ | exact Sl.imp | exact AV.Imp.agg RowOf.imp | exact AV.Imp.grow_sl | exact AV.Imp.nil_grow | exact AV.Imp.full_grow | exact AV.Imp.own_grow | exact AV.Imp.grow_of rfl | exact AV.Imp.sl_of rfl | exact AV.Imp.int_of (by omega) | exact AV.Imp.of_eq (by first | omega | simpa)) ?_)); done) (by (repeat (first | exact .refl _ | exact .nil _ | apply ItLe2.cons (by first | exact .here | exact k1 | exact k2 | exact k3 | exact k4 | exact k5 | exact k6 | exact k7 | exact k8 | exact k9 | exact k10 | exact k11 | exact k12 | exact k13) | apply ItLe2.cells (by first | exact .here | exact k1 | exact k2 | exact k3 | exact k4 | exact k5 | exact k6 | exact k7 | exact k8 | exact k9 | exact k10 | exact k11 | exact k12 | exact k13) (by repeat (first | exact .nil | refine .cons (by first | exact AV.Imp.refl _ | exact Sl.imp | exact AV.Imp.agg RowOf.imp | exact AV.Imp.grow_sl | exact AV.Imp.nil_grow | exact AV.Imp.full_grow | exact AV.Imp.own_grow | exact AV.Imp.grow_of rfl | exact AV.Imp.sl_of rfl | exact AV.Imp.int_of (by omega) | exact AV.Imp.of_eq (by first | omega | simpa)) ?_)) | apply ItLe2.tail0)); done)⟩
      · refine ⟨by omega, ?_⟩
        intro i hi hik
        by_cases e : i = k
        · subst e; exact Ne.symm h2
        · exact hinv i hi (by omega)
      · omega
  · skip
    try simp only [decide_eq_true_eq, decide_eq_false_iff_not, Bool.not_eq_true', Bool.not_eq_false', Bool.not_eq_true, Bool.not_eq_false, List.length_map, Int.ofNat_lt, Int.ofNat_le, Bool.or_eq_true, Bool.and_eq_true, Bool.or_eq_false_iff, Bool.and_eq_false_iff] at h1
    refine awp_exit ?_
    refine awp_seq ?_
    refine awp_region ?_
    refine st_p (fun _ => by exact y_assign (.plain rfl)) rfl ?_
    refine aops_nil ?_
    refine awp_ret ?_
    refine retG (.inr rfl) (.cons (.tmp rfl) .nil) (VShift.of1 (AV.Imp.refl _) (.nil _)) ⟨congrArg (fun x : (Int) => (AV.int x)) (show _ = (idxI l t) from ?_), rfl⟩
    exact (idxI_no l t (fun i hi => hinv i hi (by omega))).symm

theorem containsI_c (l : List Int) (t : Int) (hl : l.length ≤ 1000000) : ACalls Try.prog 23 [(AV.sl 1 (List.map encI l)), (AV.int t)] [] (fun v st => v = (AV.bool (decide (0 ≤ idxI l t))) ∧ st = []) := by
  refine acalls_body Try.func23 (by kernel_rfl) rfl Try.ntmps23 (le_ rfl) ?_
  rw [Try.results23]
  refine awp_seq ?_
  refine awp_region ?_
  refine st_p (fun _ => by exact y_assign (.plain rfl)) rfl ?_
  refine aops_nil ?_
  refine awp_seq ?_
  refine awp_region ?_
  refine st_p (fun _ => by exact y_move (.plain rfl)) rfl ?_
  refine st_p (fun _ => by exact y_move (.plain rfl)) rfl ?_
  refine aops_call (blt_lt rfl) (.plain rfl) (.cons (.imp (.plain rfl) (Sl.imp (enc := encI))) (.cons (.plain rfl) .nil)) (ACalls.here (indexI_c _ _ (by first | assumption | omega | (simp; omega) | (simp; done) | decide +kernel | (simp_all; omega))) ?_)
  refine st_p (fun _ => by exact y_geq (.plain rfl) (.plain rfl)) rfl ?_
  refine st_p (fun _ => by exact y_assign (.plain rfl)) rfl ?_
  refine aops_nil ?_
  refine awp_ret ?_
  refine retG (.inr rfl) (.cons (.tmp rfl) .nil) (VShift.of1 (AV.Imp.refl _) (.nil _)) ⟨congrArg (fun x : (Bool) => (AV.bool x)) (show _ = (decide (0 ≤ idxI l t)) from ?_), rfl⟩
  rfl

theorem equalI_c (a b : List Int) (ha : a.length ≤ 1000000) : ACalls Try.prog 15 [(AV.sl 1 (List.map encI a)), (AV.sl 1 (List.map encI b))] [] (fun v st => v = (AV.bool (decide (a = b))) ∧ st = []) := by
  refine acalls_body Try.func15 (by kernel_rfl) rfl Try.ntmps15 (le_ rfl) ?_
  rw [Try.results15]
  refine awp_seq ?_
  refine awp_region ?_
  refine st_p (fun _ => by exact y_assign (.plain rfl)) rfl ?_
  refine aops_nil ?_
  refine awp_seq ?_
  refine awp_seq ?_
  refine awp_region ?_
  refine st_p (fun _ => by exact y_move (.plain rfl)) rfl ?_
  first | refine st_p (fun _ => by exact y_lenN (.plain rfl)) rfl ?_ | refine st_p (fun _ => by exact y_len (.plain rfl)) rfl ?_ | refine st_p (fun _ => by exact y_lenArr (.plain rfl)) rfl ?_
  refine st_p (fun _ => by exact y_move (.plain rfl)) rfl ?_
  first | refine st_p (fun _ => by exact y_lenN (.plain rfl)) rfl ?_ | refine st_p (fun _ => by exact y_len (.plain rfl)) rfl ?_ | refine st_p (fun _ => by exact y_lenArr (.plain rfl)) rfl ?_
  refine st_p (fun _ => by exact y_neq (.plain rfl) (.plain rfl)) rfl ?_
  refine aops_nil ?_
  refine awp_cond rfl (fun h1 => ?_) (fun h1 => ?_)
  · skip
    try simp only [decide_eq_true_eq, decide_eq_false_iff_not, Bool.not_eq_true', Bool.not_eq_false', Bool.not_eq_true, Bool.not_eq_false, List.length_map, Int.ofNat_lt, Int.ofNat_le, Bool.or_eq_true, Bool.and_eq_true, Bool.or_eq_false_iff, Bool.and_eq_false_iff] at h1
    refine awp_seq ?_
    refine awp_region ?_
    refine st_p (fun _ => by exact y_assign (.plain rfl)) rfl ?_
    refine aops_nil ?_
    refine awp_ret ?_
    refine retG (.inr rfl) (.cons (.tmp rfl) .nil) (VShift.of1 (AV.Imp.refl _) (.nil _)) ⟨congrArg (fun x : (Bool) => (AV.bool x)) (show _ = (decide (a = b)) from ?_), rfl⟩
    rw [eq_comm, decide_eq_false_iff_not]; rintro rfl; exact h1 rfl
  · skip
    try simp only [decide_eq_true_eq, decide_eq_false_iff_not, Bool.not_eq_true', Bool.not_eq_false', Bool.not_eq_true, Bool.not_eq_false, List.length_map, Int.ofNat_lt, Int.ofNat_le, Bool.or_eq_true, Bool.and_eq_true, Bool.or_eq_false_iff, Bool.and_eq_false_iff] at h1
    refine awp_skip ?_
    refine awp_seq ?_
    refine awp_seq ?_
    refine awp_region ?_
    refine st_p (fun _ => by exact y_move (.plain rfl)) rfl ?_
    first | refine st_p (fun _ => by exact y_lenN (.plain rfl)) rfl ?_ | refine st_p (fun _ => by exact y_len (.plain rfl)) rfl ?_ | refine st_p (fun _ => by exact y_lenArr (.plain rfl)) rfl ?_
    refine st_p (fun _ => by exact y_move (.plain rfl)) rfl ?_
    refine aops_nil ?_
    refine awp_block ?_
    refine awp_loop2 (X := Nat) [0, 1, 12] (.cons rfl (.cons rfl (.cons rfl .nil))) (fun σ x => ((13, .int (x : Int)) : Nat × AV) :: σ) (fun R x => R) (fun x => x ≤ a.length ∧ (∀ i (h : i < a.length) (h2 : i < b.length), i < x → a[i] = b[i])) (fun x => a.length - x) 0 (by exact Weak.of2 (by (repeat (first | exact .nil _ | refine .cons rfl (by first | exact AV.Imp.refl _ | exact Sl.imp | exact AV.Imp.agg RowOf.imp | exact AV.Imp.grow_sl | exact AV.Imp.nil_grow | exact AV.Imp.full_grow | exact AV.Imp.own_grow | exact AV.Imp.grow_of rfl | exact AV.Imp.sl_of rfl | exact AV.Imp.int_of (by omega) | exact AV.Imp.of_eq (by first | omega | simpa)) ?_)); done) (by (repeat (first | exact .refl _ | exact .nil _ | apply ItLe2.cons (by first | exact .here | exact k1 | exact k2 | exact k3 | exact k4 | exact k5 | exact k6 | exact k7 | exact k8 | exact k9 | exact k10 | exact k11 | exact k12 | exact k13) | apply ItLe2.cells (by first | exact .here | exact k1 | exact k2 | exact k3 | exact k4 | exact k5 | exact k6 | exact k7 | exact k8 | exact k9 | exact k10 | exact k11 | exact k12 | exact k13) (by repeat (first | exact .nil | refine .cons (by first | exact AV.Imp.refl _ | exact Sl.imp | exact AV.Imp.agg RowOf.imp | exact AV.Imp.grow_sl | exact AV.Imp.nil_grow | exact AV.Imp.full_grow | exact AV.Imp.own_grow | exact AV.Imp.grow_of rfl | exact AV.Imp.sl_of rfl | exact AV.Imp.int_of (by omega) | exact AV.Imp.of_eq (by first | omega | simpa)) ?_)) | apply ItLe2.tail0)); done)) ⟨Nat.zero_le _, by omega⟩ ?_
    rintro k ⟨hk, hinv⟩
    try have hab : a.length = b.length := by omega
    refine awp_seq ?_
    refine awp_region ?_
    refine st_p (fun _ => by exact y_lss (.plain rfl) (.plain rfl)) rfl ?_
    refine aops_nil ?_
    refine awp_seq ?_
    refine awp_cond rfl (fun h2 => ?_) (fun h2 => ?_)
    · skip
      try simp only [decide_eq_true_eq, decide_eq_false_iff_not, Bool.not_eq_true', Bool.not_eq_false', Bool.not_eq_true, Bool.not_eq_false, List.length_map, Int.ofNat_lt, Int.ofNat_le, Bool.or_eq_true, Bool.and_eq_true, Bool.or_eq_false_iff, Bool.and_eq_false_iff] at h2
      refine awp_skip ?_
      refine awp_seq ?_
      refine awp_block ?_
      refine awp_seq ?_
      refine awp_region ?_
      refine st_p (fun _ => by exact y_move (.plain rfl)) rfl ?_
      refine st_p (fun _ => by exact y_assign (.plain rfl)) rfl ?_
      refine aops_nil ?_
      refine awp_seq ?_
      refine awp_any0 (ks := [.free, .free, .free, .free, .free, .free, .free, .free, .free]) (by kernel_rfl) (fun K => ?_) ?_
      · skip
        have hkb : k < b.length := by omega
        refine dr_p (fun _ => by exact y_move (.plain rfl)) rfl ?_
        refine dr_p (fun _ => by exact y_move (.plain rfl)) rfl ?_
        first | refine dr_p (fun _ => by exact y_indexMap (.plain rfl) (.plain rfl) rfl (by refine ⟨?_, ?_⟩; (first | omega | (simp; omega) | (simp at hc; omega) | (simp at hc ⊢; omega) | (simp; done)); rfl)) rfl ?_ | refine dr_p (fun _ => by exact y_indexT (.plain rfl) (.plain rfl) (by first | omega | (simp; omega) | (simp at hc; omega) | (simp at hc ⊢; omega) | (simp; done)) (by first | omega | (simp; omega) | (simp at hc; omega) | (simp at hc ⊢; omega) | (simp; done))) rfl ?_ | refine dr_p (fun _ => by exact y_index (.plain rfl) (.plain rfl) (by omega) rfl) rfl ?_ | refine dr_p (fun _ => by exact y_indexArr (.plain rfl) (.plain rfl) rfl (by first | omega | (simp; omega) | (simp at hc; omega) | (simp at hc ⊢; omega) | (simp; done))) rfl ?_
        refine dr_p (fun _ => by exact y_loadE (.plain rfl) rfl) rfl ?_
        refine dr_p (fun _ => by exact y_move (.plain rfl)) rfl ?_
        refine dr_p (fun _ => by exact y_move (.plain rfl)) rfl ?_
        first | refine dr_p (fun _ => by exact y_indexMap (.plain rfl) (.plain rfl) rfl (by refine ⟨?_, ?_⟩; (first | omega | (simp; omega) | (simp at hc; omega) | (simp at hc ⊢; omega) | (simp; done)); rfl)) rfl ?_ | refine dr_p (fun _ => by exact y_indexT (.plain rfl) (.plain rfl) (by first | omega | (simp; omega) | (simp at hc; omega) | (simp at hc ⊢; omega) | (simp; done)) (by first | omega | (simp; omega) | (simp at hc; omega) | (simp at hc ⊢; omega) | (simp; done))) rfl ?_ | refine dr_p (fun _ => by exact y_index (.plain rfl) (.plain rfl) (by omega) rfl) rfl ?_ | refine dr_p (fun _ => by exact y_indexArr (.plain rfl) (.plain rfl) rfl (by first | omega | (simp; omega) | (simp at hc; omega) | (simp at hc ⊢; omega) | (simp; done))) rfl ?_
        refine dr_p (fun _ => by exact y_loadE (.plain rfl) rfl) rfl ?_
        refine dr_p (fun _ => by exact y_neq (.plain rfl) (.plain rfl)) rfl ?_
        refine dr_nil ⟨rfl, ?_⟩
        refine awp_cond rfl (fun h3 => ?_) (fun h3 => ?_)
        · skip
          try simp only [decide_eq_true_eq, decide_eq_false_iff_not, Bool.not_eq_true', Bool.not_eq_false', Bool.not_eq_true, Bool.not_eq_false, List.length_map, Int.ofNat_lt, Int.ofNat_le, Bool.or_eq_true, Bool.and_eq_true, Bool.or_eq_false_iff, Bool.and_eq_false_iff] at h3
          refine awp_seq ?_
          refine awp_region ?_
          refine st_p (fun _ => by exact y_assign (.plain rfl)) rfl ?_
          refine aops_nil ?_
          refine awp_ret ?_
          refine retG (.inr rfl) (.cons (.tmp rfl) .nil) (VShift.of1 (AV.Imp.refl _) (.nil _)) ⟨congrArg (fun x : (Bool) => (AV.bool x)) (show _ = (decide (a = b)) from ?_), rfl⟩
          rw [eq_comm, decide_eq_false_iff_not]; rintro rfl; exact h3 rfl
        · skip
          try simp only [decide_eq_true_eq, decide_eq_false_iff_not, Bool.not_eq_true', Bool.not_eq_false', Bool.not_eq_true, Bool.not_eq_false, List.length_map, Int.ofNat_lt, Int.ofNat_le, Bool.or_eq_true, Bool.and_eq_true, Bool.or_eq_false_iff, Bool.and_eq_false_iff] at h3
          refine awp_skip ?_
          refine awp_region ?_
          refine st_p (fun _ => by exact y_add (.plain rfl) (.plain rfl) (by first | omega | (simp; omega) | (simp at hc; omega) | (simp at hc ⊢; omega) | (simp; done))) rfl ?_
          refine st_p (fun _ => by exact y_move (.plain rfl)) rfl ?_
          refine aops_nil ?_
          refine ⟨k + 1, ?_, ?_, Weak.of2 (by (repeat (first | exact .nil _ | refine .cons rfl (by first | exact AV.Imp.refl _ | exact Sl.imp | exact AV.Imp.agg RowOf.imp | exact AV.Imp.grow_sl | exact AV.Imp.nil_grow | exact AV.Imp.full_grow | exact AV.Imp.own_grow | exact AV.Imp.grow_of rfl | exact AV.Imp.sl_of rfl | exact AV.Imp.int_of (by omega) | exact AV.Imp.of_eq (by first | omega | simpa)) ?_)); done) (by (repeat (first | exact .refl _ | exact .nil _ | apply ItLe2.cons (by first | exact .here | exact k1 | exact k2 | exact k3 | exact k4 | exact k5 | exact k6 | exact k7 | exact k8 | exact k9 | exact k10 | exact k11 | exact k12 | exact k13) | apply ItLe2.cells (by first | exact .here | exact k1 | exact k2 | exact k3 | exact k4 | exact k5 | exact k6 | exact k7 | exact k8 | exact k9 | exact k10 | exact k11 | exact k12 | exact k13) (by repeat (first | exact .nil | refine .cons (by first | exact AV.Imp.refl _ | exact Sl.imp | exact AV.Imp.agg RowOf.imp | exact AV.Imp.grow_sl | exact AV.Imp.nil_grow | exact AV.Imp.full_grow | exact AV.Imp.own_grow | exact AV.Imp.grow_of rfl | exact AV.Imp.sl_of rfl | exact AV.Imp.int_of (by omega) | exact AV.Imp.of_eq (by first | omega | simpa)) ?_)) | apply ItLe2.tail0)); done)⟩
          · refine ⟨by omega, ?_⟩
            intro i hi hi2 hik
            by_cases e : i = k
            · subst e; exact h3
            · exact hinv i hi hi2 (by omega)
          · omega
      · kernel_rfl
    · skip
      try simp only [decide_eq_true_eq, decide_eq_false_iff_not, Bool.not_eq_true', Bool.not_eq_false', Bool.not_eq_true, Bool.not_eq_false, List.length_map, Int.ofNat_lt, Int.ofNat_le, Bool.or_eq_true, Bool.and_eq_true, Bool.or_eq_false_iff, Bool.and_eq_false_iff] at h2
      refine awp_exit ?_
      refine awp_seq ?_
      refine awp_region ?_
      refine st_p (fun _ => by exact y_assign (.plain rfl)) rfl ?_
      refine aops_nil ?_
      refine awp_ret ?_
      refine retG (.inr rfl) (.cons (.tmp rfl) .nil) (VShift.of1 (AV.Imp.refl _) (.nil _)) ⟨congrArg (fun x : (Bool) => (AV.bool x)) (show _ = (decide (a = b)) from ?_), rfl⟩
      rw [eq_comm, decide_eq_true_iff]; exact List.ext_getElem (by omega) fun i p q => hinv i p q (by omega)

theorem sameI_c (a b : List Int) (ha : a.length ≤ 1000000) : ACalls Try.prog 44 [(AV.sl 1 (List.map encI a)), (AV.sl 1 (List.map encI b))] [] (fun v st => v = (AV.bool (decide (a = b))) ∧ st = []) := by
  refine acalls_body Try.func44 (by kernel_rfl) rfl Try.ntmps44 (le_ rfl) ?_
  rw [Try.results44]
  refine awp_seq ?_
  refine awp_region ?_
  refine st_p (fun _ => by exact y_assign (.plain rfl)) rfl ?_
  refine aops_nil ?_
  refine awp_seq ?_
  refine awp_seq ?_
  refine awp_region ?_
  refine st_p (fun _ => by exact y_move (.plain rfl)) rfl ?_
  first | refine st_p (fun _ => by exact y_lenN (.plain rfl)) rfl ?_ | refine st_p (fun _ => by exact y_len (.plain rfl)) rfl ?_ | refine st_p (fun _ => by exact y_lenArr (.plain rfl)) rfl ?_
  refine st_p (fun _ => by exact y_move (.plain rfl)) rfl ?_
  first | refine st_p (fun _ => by exact y_lenN (.plain rfl)) rfl ?_ | refine st_p (fun _ => by exact y_len (.plain rfl)) rfl ?_ | refine st_p (fun _ => by exact y_lenArr (.plain rfl)) rfl ?_
  refine st_p (fun _ => by exact y_neq (.plain rfl) (.plain rfl)) rfl ?_
  refine aops_nil ?_
  refine awp_cond rfl (fun h1 => ?_) (fun h1 => ?_)
  · skip
    try simp only [decide_eq_true_eq, decide_eq_false_iff_not, Bool.not_eq_true', Bool.not_eq_false', Bool.not_eq_true, Bool.not_eq_false, List.length_map, Int.ofNat_lt, Int.ofNat_le, Bool.or_eq_true, Bool.and_eq_true, Bool.or_eq_false_iff, Bool.and_eq_false_iff] at h1
    refine awp_seq ?_
    refine awp_region ?_
    refine st_p (fun _ => by exact y_assign (.plain rfl)) rfl ?_
    refine aops_nil ?_
    refine awp_ret ?_
    refine retG (.inr rfl) (.cons (.tmp rfl) .nil) (VShift.of1 (AV.Imp.refl _) (.nil _)) ⟨congrArg (fun x : (Bool) => (AV.bool x)) (show _ = (decide (a = b)) from ?_), rfl⟩
    rw [eq_comm, decide_eq_false_iff_not]; rintro rfl; exact h1 rfl
  · skip
    try simp only [decide_eq_true_eq, decide_eq_false_iff_not, Bool.not_eq_true', Bool.not_eq_false', Bool.not_eq_true, Bool.not_eq_false, List.length_map, Int.ofNat_lt, Int.ofNat_le, Bool.or_eq_true, Bool.and_eq_true, Bool.or_eq_false_iff, Bool.and_eq_false_iff] at h1
    refine awp_skip ?_
    refine awp_seq ?_
    refine awp_seq ?_
    refine awp_region ?_
    refine st_p (fun _ => by exact y_assign (.plain rfl)) rfl ?_
    refine aops_nil ?_
    refine awp_block ?_
    refine awp_loop2 (X := Nat) [0, 1] (.cons rfl (.cons rfl .nil)) (fun σ x => ((5, .int (x : Int)) : Nat × AV) :: σ) (fun R x => R) (fun x => x ≤ a.length ∧ (∀ i (h : i < a.length) (h2 : i < b.length), i < x → a[i] = b[i])) (fun x => a.length - x) 0 (by exact Weak.of2 (by (repeat (first | exact .nil _ | refine .cons rfl (by first | exact AV.Imp.refl _ | exact Sl.imp | exact AV.Imp.agg RowOf.imp | exact AV.Imp.grow_sl | exact AV.Imp.nil_grow | exact AV.Imp.full_grow | exact AV.Imp.own_grow | exact AV.Imp.grow_of rfl | exact AV.Imp.sl_of rfl | exact AV.Imp.int_of (by omega) | exact AV.Imp.of_eq (by first | omega | simpa)) ?_)); done) (by (repeat (first | exact .refl _ | exact .nil _ | apply ItLe2.cons (by first | exact .here | exact k1 | exact k2 | exact k3 | exact k4 | exact k5 | exact k6 | exact k7 | exact k8 | exact k9 | exact k10 | exact k11 | exact k12 | exact k13) | apply ItLe2.cells (by first | exact .here | exact k1 | exact k2 | exact k3 | exact k4 | exact k5 | exact k6 | exact k7 | exact k8 | exact k9 | exact k10 | exact k11 | exact k12 | exact k13) (by repeat (first | exact .nil | refine .cons (by first | exact AV.Imp.refl _ | exact Sl.imp | exact AV.Imp.agg RowOf.imp | exact AV.Imp.grow_sl | exact AV.Imp.nil_grow | exact AV.Imp.full_grow | exact AV.Imp.own_grow | exact AV.Imp.grow_of rfl | exact AV.Imp.sl_of rfl | exact AV.Imp.int_of (by omega) | exact AV.Imp.of_eq (by first | omega | simpa)) ?_)) | apply ItLe2.tail0)); done)) ⟨Nat.zero_le _, by omega⟩ ?_
    rintro k ⟨hk, hinv⟩
    try have hab : a.length = b.length := by omega
    refine awp_seq ?_
    refine awp_seq ?_
    refine awp_region ?_
    refine st_p (fun _ => by exact y_move (.plain rfl)) rfl ?_
    refine st_p (fun _ => by exact y_move (.plain rfl)) rfl ?_
    first | refine st_p (fun _ => by exact y_lenN (.plain rfl)) rfl ?_ | refine st_p (fun _ => by exact y_len (.plain rfl)) rfl ?_ | refine st_p (fun _ => by exact y_lenArr (.plain rfl)) rfl ?_
    refine st_p (fun _ => by exact y_lss (.plain rfl) (.plain rfl)) rfl ?_
    refine aops_nil ?_
    refine awp_cond rfl (fun h2 => ?_) (fun h2 => ?_)
    · skip
      try simp only [decide_eq_true_eq, decide_eq_false_iff_not, Bool.not_eq_true', Bool.not_eq_false', Bool.not_eq_true, Bool.not_eq_false, List.length_map, Int.ofNat_lt, Int.ofNat_le, Bool.or_eq_true, Bool.and_eq_true, Bool.or_eq_false_iff, Bool.and_eq_false_iff] at h2
      refine awp_skip ?_
      refine awp_seq ?_
      refine awp_block ?_
      refine awp_seq ?_
      refine awp_any0 (ks := [.free, .free, .free, .free, .free, .free, .free, .free, .free]) (by kernel_rfl) (fun K => ?_) ?_
      · skip
        have hkb : k < b.length := by omega
        refine dr_p (fun _ => by exact y_move (.plain rfl)) rfl ?_
        refine dr_p (fun _ => by exact y_move (.plain rfl)) rfl ?_
        first | refine dr_p (fun _ => by exact y_indexMap (.plain rfl) (.plain rfl) rfl (by refine ⟨?_, ?_⟩; (first | omega | (simp; omega) | (simp at hc; omega) | (simp at hc ⊢; omega) | (simp; done)); rfl)) rfl ?_ | refine dr_p (fun _ => by exact y_indexT (.plain rfl) (.plain rfl) (by first | omega | (simp; omega) | (simp at hc; omega) | (simp at hc ⊢; omega) | (simp; done)) (by first | omega | (simp; omega) | (simp at hc; omega) | (simp at hc ⊢; omega) | (simp; done))) rfl ?_ | refine dr_p (fun _ => by exact y_index (.plain rfl) (.plain rfl) (by omega) rfl) rfl ?_ | refine dr_p (fun _ => by exact y_indexArr (.plain rfl) (.plain rfl) rfl (by first | omega | (simp; omega) | (simp at hc; omega) | (simp at hc ⊢; omega) | (simp; done))) rfl ?_
        refine dr_p (fun _ => by exact y_loadE (.plain rfl) rfl) rfl ?_
        refine dr_p (fun _ => by exact y_move (.plain rfl)) rfl ?_
        refine dr_p (fun _ => by exact y_move (.plain rfl)) rfl ?_
        first | refine dr_p (fun _ => by exact y_indexMap (.plain rfl) (.plain rfl) rfl (by refine ⟨?_, ?_⟩; (first | omega | (simp; omega) | (simp at hc; omega) | (simp at hc ⊢; omega) | (simp; done)); rfl)) rfl ?_ | refine dr_p (fun _ => by exact y_indexT (.plain rfl) (.plain rfl) (by first | omega | (simp; omega) | (simp at hc; omega) | (simp at hc ⊢; omega) | (simp; done)) (by first | omega | (simp; omega) | (simp at hc; omega) | (simp at hc ⊢; omega) | (simp; done))) rfl ?_ | refine dr_p (fun _ => by exact y_index (.plain rfl) (.plain rfl) (by omega) rfl) rfl ?_ | refine dr_p (fun _ => by exact y_indexArr (.plain rfl) (.plain rfl) rfl (by first | omega | (simp; omega) | (simp at hc; omega) | (simp at hc ⊢; omega) | (simp; done))) rfl ?_
        refine dr_p (fun _ => by exact y_loadE (.plain rfl) rfl) rfl ?_
        refine dr_p (fun _ => by exact y_neq (.plain rfl) (.plain rfl)) rfl ?_
        refine dr_nil ⟨rfl, ?_⟩
        refine awp_cond rfl (fun h3 => ?_) (fun h3 => ?_)
        · skip
          try simp only [decide_eq_true_eq, decide_eq_false_iff_not, Bool.not_eq_true', Bool.not_eq_false', Bool.not_eq_true, Bool.not_eq_false, List.length_map, Int.ofNat_lt, Int.ofNat_le, Bool.or_eq_true, Bool.and_eq_true, Bool.or_eq_false_iff, Bool.and_eq_false_iff] at h3
          refine awp_seq ?_
          refine awp_region ?_
          refine st_p (fun _ => by exact y_assign (.plain rfl)) rfl ?_
          refine aops_nil ?_
          refine awp_ret ?_
          refine retG (.inr rfl) (.cons (.tmp rfl) .nil) (VShift.of1 (AV.Imp.refl _) (.nil _)) ⟨congrArg (fun x : (Bool) => (AV.bool x)) (show _ = (decide (a = b)) from ?_), rfl⟩
          rw [eq_comm, decide_eq_false_iff_not]; rintro rfl; exact h3 rfl
        · skip
          try simp only [decide_eq_true_eq, decide_eq_false_iff_not, Bool.not_eq_true', Bool.not_eq_false', Bool.not_eq_true, Bool.not_eq_false, List.length_map, Int.ofNat_lt, Int.ofNat_le, Bool.or_eq_true, Bool.and_eq_true, Bool.or_eq_false_iff, Bool.and_eq_false_iff] at h3
          refine awp_skip ?_
          refine awp_region ?_
          refine st_p (fun _ => by exact y_move (.plain rfl)) rfl ?_
          refine st_p (fun _ => by exact y_add (.plain rfl) (.plain rfl) (by first | omega | (simp; omega) | (simp at hc; omega) | (simp at hc ⊢; omega) | (simp; done))) rfl ?_
          refine st_p (fun _ => by exact y_assign (.plain rfl)) rfl ?_
          refine aops_nil ?_
          refine ⟨k + 1, ?_, ?_, Weak.of2 (by (repeat (first | exact .nil _ | refine .cons rfl (by first | exact AV.Imp.refl _ | exact Sl.imp | exact AV.Imp.agg RowOf.imp | exact AV.Imp.grow_sl | exact AV.Imp.nil_grow | exact AV.Imp.full_grow | exact AV.Imp.own_grow | exact AV.Imp.grow_of rfl | exact AV.Imp.sl_of rfl | exact AV.Imp.int_of (by omega) | exact AV.Imp.of_eq (by first | omega | simpa)) ?_)); done) (by (repeat (first | exact .refl _ | exact .nil _ | apply ItLe2.cons (by first | exact .here | exact k1 | exact k2 | exact k3 | exact k4 | exact k5 | exact k6 | exact k7 | exact k8 | exact k9 | exact k10 | exact k11 | exact k12 | exact k13) | apply ItLe2.cells (by first | exact .here | exact k1 | exact k2 | exact k3 | exact k4 | exact k5 | exact k6 | exact k7 | exact k8 | exact k9 | exact k10 | exact k11 | exact k12 | exact k13) (by repeat (first | exact .nil | refine .cons (by first | exact AV.Imp.refl _ | exact Sl.imp | exact AV.Imp.agg RowOf.imp | exact AV.Imp.grow_sl | exact AV.Imp.nil_grow | exact AV.Imp.full_grow | exact AV.Imp.own_grow | exact AV.Imp.grow_of rfl | exact AV.Imp.sl_of rfl | exact AV.Imp.int_of (by omega) | exact AV.Imp.of_eq (by first | omega | simpa)) ?_)) | apply ItLe2.tail0)); done)⟩
          · refine ⟨by omega, ?_⟩
            intro i hi hi2 hik
            by_cases e : i = k
            · subst e; exact h3
            · exact hinv i hi hi2 (by omega)
          · omega
      · kernel_rfl
    · skip
      try simp only [decide_eq_true_eq, decide_eq_false_iff_not, Bool.not_eq_true', Bool.not_eq_false', Bool.not_eq_true, Bool.not_eq_false, List.length_map, Int.ofNat_lt, Int.ofNat_le, Bool.or_eq_true, Bool.and_eq_true, Bool.or_eq_false_iff, Bool.and_eq_false_iff] at h2
      refine awp_exit ?_
      refine awp_seq ?_
      refine awp_region ?_
      refine st_p (fun _ => by exact y_assign (.plain rfl)) rfl ?_
      refine aops_nil ?_
      refine awp_ret ?_
      refine retG (.inr rfl) (.cons (.tmp rfl) .nil) (VShift.of1 (AV.Imp.refl _) (.nil _)) ⟨congrArg (fun x : (Bool) => (AV.bool x)) (show _ = (decide (a = b)) from ?_), rfl⟩
      rw [eq_comm, decide_eq_true_iff]; exact List.ext_getElem (by omega) fun i p q => hinv i p q (by omega)

theorem less_c (a b : Ed) (ha : (0 ≤ a.u ∧ a.u < 1000) ∧ (0 ≤ a.v ∧ a.v < 1000)) (hb : (0 ≤ b.u ∧ b.u < 1000) ∧ (0 ≤ b.v ∧ b.v < 1000)) : ACalls Try.prog 39 [(AV.agg (encE a)), (AV.agg (encE b))] [] (fun v st => v = (AV.int (Dg.lessI a b)) ∧ st = []) := by
  refine acalls_body Try.func39 (by kernel_rfl) rfl Try.ntmps39 (le_ rfl) ?_
  rw [Try.results39]
  refine awp_seq ?_
  refine awp_region ?_
  refine st_n (fun _ => by exact y_box (.plain rfl)) rfl fun n1 => ?_
  refine st_n (fun _ => by exact y_box (.plain rfl)) rfl fun n2 => ?_
  refine st_p (fun _ => by exact y_assign (.plain rfl)) rfl ?_
  refine aops_nil ?_
  refine awp_seq ?_
  refine awp_seq ?_
  refine awp_region ?_
  refine st_p (fun _ => by exact y_fieldPtr (.plain rfl)) rfl ?_
  refine st_p (fun _ => by exact y_load (.plain rfl) (by first | exact .here | exact k1 | exact k2 | exact k3 | exact k4 | exact k5 | exact k6 | exact k7 | exact k8 | exact k9 | exact k10 | exact k11 | exact k12 | exact k13) rfl) rfl ?_
  refine st_p (fun _ => by exact y_fieldPtr (.plain rfl)) rfl ?_
  refine st_p (fun _ => by exact y_load (.plain rfl) (by first | exact .here | exact k1 | exact k2 | exact k3 | exact k4 | exact k5 | exact k6 | exact k7 | exact k8 | exact k9 | exact k10 | exact k11 | exact k12 | exact k13) rfl) rfl ?_
  refine st_p (fun _ => by exact y_neq (.plain rfl) (.plain rfl)) rfl ?_
  refine aops_nil ?_
  refine awp_cond rfl (fun h1 => ?_) (fun h1 => ?_)
  · skip
    try simp only [decide_eq_true_eq, decide_eq_false_iff_not, Bool.not_eq_true', Bool.not_eq_false', Bool.not_eq_true, Bool.not_eq_false, List.length_map, Int.ofNat_lt, Int.ofNat_le, Bool.or_eq_true, Bool.and_eq_true, Bool.or_eq_false_iff, Bool.and_eq_false_iff] at h1
    refine awp_seq ?_
    refine awp_region ?_
    refine st_p (fun _ => by exact y_fieldPtr (.plain rfl)) rfl ?_
    refine st_p (fun _ => by exact y_load (.plain rfl) (by first | exact .here | exact k1 | exact k2 | exact k3 | exact k4 | exact k5 | exact k6 | exact k7 | exact k8 | exact k9 | exact k10 | exact k11 | exact k12 | exact k13) rfl) rfl ?_
    refine st_p (fun _ => by exact y_fieldPtr (.plain rfl)) rfl ?_
    refine st_p (fun _ => by exact y_load (.plain rfl) (by first | exact .here | exact k1 | exact k2 | exact k3 | exact k4 | exact k5 | exact k6 | exact k7 | exact k8 | exact k9 | exact k10 | exact k11 | exact k12 | exact k13) rfl) rfl ?_
    refine st_p (fun _ => by exact y_sub (.plain rfl) (.plain rfl) (by first | omega | (simp; omega) | (simp at hc; omega) | (simp at hc ⊢; omega) | (simp; done))) rfl ?_
    refine st_p (fun _ => by exact y_assign (.plain rfl)) rfl ?_
    refine aops_nil ?_
    refine awp_ret ?_
    refine retG (.inr rfl) (.cons (.tmp rfl) .nil) (VShift.of1 (AV.Imp.refl _) (.nil _)) ⟨congrArg (fun x : (Int) => (AV.int x)) (show _ = (Dg.lessI a b) from ?_), rfl⟩
    rw [Dg.lessI, if_pos (by assumption)]
  · skip
    try simp only [decide_eq_true_eq, decide_eq_false_iff_not, Bool.not_eq_true', Bool.not_eq_false', Bool.not_eq_true, Bool.not_eq_false, List.length_map, Int.ofNat_lt, Int.ofNat_le, Bool.or_eq_true, Bool.and_eq_true, Bool.or_eq_false_iff, Bool.and_eq_false_iff] at h1
    refine awp_skip ?_
    refine awp_seq ?_
    refine awp_region ?_
    refine st_p (fun _ => by exact y_fieldPtr (.plain rfl)) rfl ?_
    refine st_p (fun _ => by exact y_load (.plain rfl) (by first | exact .here | exact k1 | exact k2 | exact k3 | exact k4 | exact k5 | exact k6 | exact k7 | exact k8 | exact k9 | exact k10 | exact k11 | exact k12 | exact k13) rfl) rfl ?_
    refine st_p (fun _ => by exact y_fieldPtr (.plain rfl)) rfl ?_
    refine st_p (fun _ => by exact y_load (.plain rfl) (by first | exact .here | exact k1 | exact k2 | exact k3 | exact k4 | exact k5 | exact k6 | exact k7 | exact k8 | exact k9 | exact k10 | exact k11 | exact k12 | exact k13) rfl) rfl ?_
    refine st_p (fun _ => by exact y_sub (.plain rfl) (.plain rfl) (by first | omega | (simp; omega) | (simp at hc; omega) | (simp at hc ⊢; omega) | (simp; done))) rfl ?_
    refine st_p (fun _ => by exact y_assign (.plain rfl)) rfl ?_
    refine aops_nil ?_
    refine awp_ret ?_
    refine retG (.inr rfl) (.cons (.tmp rfl) .nil) (VShift.of1 (AV.Imp.refl _) (.nil _)) ⟨congrArg (fun x : (Int) => (AV.int x)) (show _ = (Dg.lessI a b) from ?_), rfl⟩
    rw [Dg.lessI, if_neg (by omega)]

theorem chk_c (n : Int) (l : List Ed) (hl : l.length ≤ 1000000) : ACalls Try.prog 13 [(AV.int n), (AV.sl 2 (List.map encE l))] [] (fun v st => v = (AV.int (Dg.chk n l)) ∧ st = []) := by
  refine acalls_body Try.func13 (by kernel_rfl) rfl Try.ntmps13 (le_ rfl) ?_
  rw [Try.results13]
  refine awp_seq ?_
  refine awp_region ?_
  refine st_p (fun _ => by exact y_assign (.plain rfl)) rfl ?_
  refine aops_nil ?_
  refine awp_seq ?_
  refine awp_seq ?_
  refine awp_region ?_
  refine st_p (fun _ => by exact y_move (.plain rfl)) rfl ?_
  refine st_p (fun _ => by exact y_lss (.plain rfl) (.plain rfl)) rfl ?_
  refine st_p (fun _ => by exact y_move (.plain rfl)) rfl ?_
  refine st_g rfl rfl rfl SaysI.out (fun hc _ => by exact y_move (.plain rfl)) rfl ?_
  refine st_g rfl rfl rfl SaysI.out (fun hc _ => by exact y_gtr (.opt rfl hc) (.plain rfl)) rfl ?_
  refine st_p (fun _ => by exact y_or (.plain rfl) rfl rfl) rfl ?_
  refine aops_nil ?_
  refine awp_cond rfl (fun h1 => ?_) (fun h1 => ?_)
  · skip
    try simp only [decide_eq_true_eq, decide_eq_false_iff_not, Bool.not_eq_true', Bool.not_eq_false', Bool.not_eq_true, Bool.not_eq_false, List.length_map, Int.ofNat_lt, Int.ofNat_le, Bool.or_eq_true, Bool.and_eq_true, Bool.or_eq_false_iff, Bool.and_eq_false_iff] at h1
    refine awp_seq ?_
    refine awp_region ?_
    refine st_p (fun _ => by exact y_assign (.plain rfl)) rfl ?_
    refine aops_nil ?_
    refine awp_ret ?_
    refine retG (.inr rfl) (.cons (.tmp rfl) .nil) (VShift.of1 (AV.Imp.refl _) (.nil _)) ⟨congrArg (fun x : (Int) => (AV.int x)) (show _ = (Dg.chk n l) from ?_), rfl⟩
    have he : Dg.chk n l = 2 := by rw [Dg.chk, if_pos (by omega)]
    exact he.symm
  · skip
    try simp only [decide_eq_true_eq, decide_eq_false_iff_not, Bool.not_eq_true', Bool.not_eq_false', Bool.not_eq_true, Bool.not_eq_false, List.length_map, Int.ofNat_lt, Int.ofNat_le, Bool.or_eq_true, Bool.and_eq_true, Bool.or_eq_false_iff, Bool.and_eq_false_iff] at h1
    refine awp_skip ?_
    refine awp_seq ?_
    refine awp_seq ?_
    refine awp_region ?_
    refine st_p (fun _ => by exact y_move (.plain rfl)) rfl ?_
    first | refine st_p (fun _ => by exact y_lenN (.plain rfl)) rfl ?_ | refine st_p (fun _ => by exact y_len (.plain rfl)) rfl ?_ | refine st_p (fun _ => by exact y_lenArr (.plain rfl)) rfl ?_
    refine st_p (fun _ => by exact y_gtr (.plain rfl) (.plain rfl)) rfl ?_
    refine aops_nil ?_
    refine awp_cond rfl (fun h2 => ?_) (fun h2 => ?_)
    · skip
      try simp only [decide_eq_true_eq, decide_eq_false_iff_not, Bool.not_eq_true', Bool.not_eq_false', Bool.not_eq_true, Bool.not_eq_false, List.length_map, Int.ofNat_lt, Int.ofNat_le, Bool.or_eq_true, Bool.and_eq_true, Bool.or_eq_false_iff, Bool.and_eq_false_iff] at h2
      refine awp_seq ?_
      refine awp_region ?_
      refine st_p (fun _ => by exact y_assign (.plain rfl)) rfl ?_
      refine aops_nil ?_
      refine awp_ret ?_
      refine retG (.inr rfl) (.cons (.tmp rfl) .nil) (VShift.of1 (AV.Imp.refl _) (.nil _)) ⟨congrArg (fun x : (Int) => (AV.int x)) (show _ = (Dg.chk n l) from ?_), rfl⟩
      have he : Dg.chk n l = 4 := by rw [Dg.chk, if_neg (by omega), if_pos (by omega)]
      exact he.symm
    · skip
      try simp only [decide_eq_true_eq, decide_eq_false_iff_not, Bool.not_eq_true', Bool.not_eq_false', Bool.not_eq_true, Bool.not_eq_false, List.length_map, Int.ofNat_lt, Int.ofNat_le, Bool.or_eq_true, Bool.and_eq_true, Bool.or_eq_false_iff, Bool.and_eq_false_iff] at h2
      refine awp_skip ?_
      refine awp_seq ?_
      refine awp_seq ?_
      refine awp_region ?_
      refine st_p (fun _ => by exact y_move (.plain rfl)) rfl ?_
      first | refine st_p (fun _ => by exact y_lenN (.plain rfl)) rfl ?_ | refine st_p (fun _ => by exact y_len (.plain rfl)) rfl ?_ | refine st_p (fun _ => by exact y_lenArr (.plain rfl)) rfl ?_
      refine st_p (fun _ => by exact y_move (.plain rfl)) rfl ?_
      refine aops_nil ?_
      refine awp_block ?_
      refine awp_loop2 (X := Nat) [0, 1, 16, 17] (.cons rfl (.cons rfl (.cons rfl (.cons rfl .nil)))) (fun σ x => ((18, .int (x : Int)) : Nat × AV) :: σ) (fun R x => R) (fun x => x ≤ l.length ∧ (Dg.chkL n none l = Dg.chkL n (Dg.prv l x) (l.drop x) ∧ ∀ i (h : i < l.length), i < x → Dg.bad n l[i] = false)) (fun x => l.length - x) 0 (by exact Weak.of2 (by (repeat (first | exact .nil _ | refine .cons rfl (by first | exact AV.Imp.refl _ | exact Sl.imp | exact AV.Imp.agg RowOf.imp | exact AV.Imp.grow_sl | exact AV.Imp.nil_grow | exact AV.Imp.full_grow | exact AV.Imp.own_grow | exact AV.Imp.grow_of rfl | exact AV.Imp.sl_of rfl | exact AV.Imp.int_of (by omega) | exact AV.Imp.of_eq (by first | omega | simpa)) ?_)); done) (by (repeat (first | exact .refl _ | exact .nil _ | apply ItLe2.cons (by first | exact .here | exact k1 | exact k2 | exact k3 | exact k4 | exact k5 | exact k6 | exact k7 | exact k8 | exact k9 | exact k10 | exact k11 | exact k12 | exact k13) | apply ItLe2.cells (by first | exact .here | exact k1 | exact k2 | exact k3 | exact k4 | exact k5 | exact k6 | exact k7 | exact k8 | exact k9 | exact k10 | exact k11 | exact k12 | exact k13) (by repeat (first | exact .nil | refine .cons (by first | exact AV.Imp.refl _ | exact Sl.imp | exact AV.Imp.agg RowOf.imp | exact AV.Imp.grow_sl | exact AV.Imp.nil_grow | exact AV.Imp.full_grow | exact AV.Imp.own_grow | exact AV.Imp.grow_of rfl | exact AV.Imp.sl_of rfl | exact AV.Imp.int_of (by omega) | exact AV.Imp.of_eq (by first | omega | simpa)) ?_)) | apply ItLe2.tail0)); done)) ⟨Nat.zero_le _, ⟨rfl, by omega⟩⟩ ?_
      rintro k ⟨hk, hinv⟩
      refine awp_seq ?_
      refine awp_region ?_
      refine st_p (fun _ => by exact y_lss (.plain rfl) (.plain rfl)) rfl ?_
      refine aops_nil ?_
      refine awp_seq ?_
      refine awp_cond rfl (fun h3 => ?_) (fun h3 => ?_)
      · skip
        try simp only [decide_eq_true_eq, decide_eq_false_iff_not, Bool.not_eq_true', Bool.not_eq_false', Bool.not_eq_true, Bool.not_eq_false, List.length_map, Int.ofNat_lt, Int.ofNat_le, Bool.or_eq_true, Bool.and_eq_true, Bool.or_eq_false_iff, Bool.and_eq_false_iff] at h3
        refine awp_skip ?_
        refine awp_seq ?_
        refine awp_block ?_
        refine awp_seq ?_
        refine awp_region ?_
        refine st_p (fun _ => by exact y_move (.plain rfl)) rfl ?_
        first | refine st_p (fun _ => by exact y_indexMap (.plain rfl) (.plain rfl) rfl (by refine ⟨?_, ?_⟩; (first | omega | (simp; omega) | (simp at hc; omega) | (simp at hc ⊢; omega) | (simp; done)); rfl)) rfl ?_ | refine st_p (fun _ => by exact y_indexT (.plain rfl) (.plain rfl) (by first | omega | (simp; omega) | (simp at hc; omega) | (simp at hc ⊢; omega) | (simp; done)) (by first | omega | (simp; omega) | (simp at hc; omega) | (simp at hc ⊢; omega) | (simp; done))) rfl ?_ | refine st_p (fun _ => by exact y_index (.plain rfl) (.plain rfl) (by omega) rfl) rfl ?_ | refine st_p (fun _ => by exact y_indexArr (.plain rfl) (.plain rfl) rfl (by first | omega | (simp; omega) | (simp at hc; omega) | (simp at hc ⊢; omega) | (simp; done))) rfl ?_
        first | refine st_p (fun _ => by exact y_loadEW (.plain rfl) (by rfl)) rfl ?_ | refine st_p (fun _ => by exact y_loadEAggN (cs' := [_, _]) (.plain rfl) (le_ rfl) rfl) rfl ?_
        refine st_n (fun _ => by exact y_alloc) rfl fun n1 => ?_
        refine st_p (fun _ => by exact y_assign (.plain rfl)) rfl ?_
        refine st_s (fun _ => by exact y_storeW (by rfl) rfl (.plain rfl) (.plain rfl) (by first | exact .here | exact u1 | exact u2 | exact u3 | exact u4 | exact u5 | exact u6 | exact u7 | exact u8 | exact u9 | exact u10 | exact u11 | exact u12 | exact u13) (by rfl)) ?_
        refine aops_nil ?_
        refine awp_seq ?_
        refine awp_seq ?_
        refine awp_region ?_
        refine st_p (fun _ => by exact y_fieldPtr (.plain rfl)) rfl ?_
        refine st_p (fun _ => by exact y_load (.plain rfl) (by first | exact .here | exact k1 | exact k2 | exact k3 | exact k4 | exact k5 | exact k6 | exact k7 | exact k8 | exact k9 | exact k10 | exact k11 | exact k12 | exact k13) rfl) rfl ?_
        refine st_p (fun _ => by exact y_lss (.plain rfl) (.plain rfl)) rfl ?_
        refine st_p (fun _ => by exact y_move (.plain rfl)) rfl ?_
        refine st_g rfl rfl rfl SaysI.out (fun hc _ => by exact y_fieldPtr (.plain rfl)) rfl ?_
        refine st_g rfl rfl rfl SaysI.out (fun hc _ => by exact y_load (.opt rfl hc) (by first | exact .here | exact k1 | exact k2 | exact k3 | exact k4 | exact k5 | exact k6 | exact k7 | exact k8 | exact k9 | exact k10 | exact k11 | exact k12 | exact k13) rfl) rfl ?_
        refine st_g rfl rfl rfl SaysI.out (fun hc _ => by exact y_move (.plain rfl)) rfl ?_
        refine st_g rfl rfl rfl SaysI.out (fun hc _ => by exact y_geq (.opt rfl hc) (.opt rfl hc)) rfl ?_
        refine st_p (fun _ => by exact y_or (.plain rfl) rfl rfl) rfl ?_
        refine st_p (fun _ => by exact y_move (.plain rfl)) rfl ?_
        refine st_g rfl rfl rfl SaysI.out (fun hc _ => by exact y_fieldPtr (.plain rfl)) rfl ?_
        refine st_g rfl rfl rfl SaysI.out (fun hc _ => by exact y_load (.opt rfl hc) (by first | exact .here | exact k1 | exact k2 | exact k3 | exact k4 | exact k5 | exact k6 | exact k7 | exact k8 | exact k9 | exact k10 | exact k11 | exact k12 | exact k13) rfl) rfl ?_
        refine st_g rfl rfl rfl SaysI.out (fun hc _ => by exact y_lss (.opt rfl hc) (.plain rfl)) rfl ?_
        refine st_p (fun _ => by exact y_or (.plain rfl) rfl rfl) rfl ?_
        refine st_p (fun _ => by exact y_move (.plain rfl)) rfl ?_
        refine st_g rfl rfl rfl SaysI.out (fun hc _ => by exact y_fieldPtr (.plain rfl)) rfl ?_
        refine st_g rfl rfl rfl SaysI.out (fun hc _ => by exact y_load (.opt rfl hc) (by first | exact .here | exact k1 | exact k2 | exact k3 | exact k4 | exact k5 | exact k6 | exact k7 | exact k8 | exact k9 | exact k10 | exact k11 | exact k12 | exact k13) rfl) rfl ?_
        refine st_g rfl rfl rfl SaysI.out (fun hc _ => by exact y_move (.plain rfl)) rfl ?_
        refine st_g rfl rfl rfl SaysI.out (fun hc _ => by exact y_geq (.opt rfl hc) (.opt rfl hc)) rfl ?_
        refine st_p (fun _ => by exact y_or (.plain rfl) rfl rfl) rfl ?_
        refine aops_nil ?_
        refine awp_cond rfl (fun h4 => ?_) (fun h4 => ?_)
        · skip
          try simp only [decide_eq_true_eq, decide_eq_false_iff_not, Bool.not_eq_true', Bool.not_eq_false', Bool.not_eq_true, Bool.not_eq_false, List.length_map, Int.ofNat_lt, Int.ofNat_le, Bool.or_eq_true, Bool.and_eq_true, Bool.or_eq_false_iff, Bool.and_eq_false_iff] at h4
          have hbk : Dg.bad n l[k] = true := by
            cases hb : Dg.bad n l[k]
            · rw [Dg.bad_iff] at hb; omega
            · rfl
          refine awp_seq ?_
          refine awp_region ?_
          refine st_p (fun _ => by exact y_assign (.plain rfl)) rfl ?_
          refine aops_nil ?_
          refine awp_ret ?_
          refine retG (.inr rfl) (.cons (.tmp rfl) .nil) (VShift.of1 (AV.Imp.refl _) (.nil _)) ⟨congrArg (fun x : (Int) => (AV.int x)) (show _ = (Dg.chk n l) from ?_), rfl⟩
          have he : Dg.chk n l = 2 := by rw [Dg.chk, if_neg (by omega), if_neg (by omega), hinv.1, Dg.chkL_bad n l k h3 hbk]
          exact he.symm
        · skip
          try simp only [decide_eq_true_eq, decide_eq_false_iff_not, Bool.not_eq_true', Bool.not_eq_false', Bool.not_eq_true, Bool.not_eq_false, List.length_map, Int.ofNat_lt, Int.ofNat_le, Bool.or_eq_true, Bool.and_eq_true, Bool.or_eq_false_iff, Bool.and_eq_false_iff] at h4
          have hbk : Dg.bad n l[k] = false := Dg.bad_iff.2 (by omega)
          refine awp_skip ?_
          refine awp_seq ?_
          refine awp_any0 (ks := [.free, .free, .free, .free, .free, .free, .free, .free, .free, .free, .free, .free]) (by kernel_rfl) (fun K => ?_) ?_
          · skip
            refine dr_p (fun _ => by exact y_move (.plain rfl)) rfl ?_
            refine dr_p (fun _ => by exact y_gtr (.plain rfl) (.plain rfl)) rfl ?_
            refine dr_p (fun _ => by exact y_move (.plain rfl)) rfl ?_
            refine dr_g rfl rfl rfl SaysI.out (fun hc _ => by exact y_move (.plain rfl)) rfl ?_
            refine dr_g rfl rfl rfl SaysI.out (fun hc _ => by exact y_move (.plain rfl)) rfl ?_
            refine dr_g rfl rfl rfl SaysI.out (fun hc _ => by exact y_sub (.opt rfl hc) (.plain rfl) (by first | omega | (simp; omega) | (simp at hc; omega) | (simp at hc ⊢; omega) | (simp; done))) rfl ?_
            first | refine dr_g rfl rfl rfl SaysI.out (fun hc _ => by exact y_indexMap (.opt rfl hc) (.opt rfl hc) rfl (by refine ⟨?_, ?_⟩; (first | omega | (simp; omega) | (simp at hc; omega) | (simp at hc ⊢; omega) | (simp; done)); rfl)) rfl ?_ | refine dr_g rfl rfl rfl SaysI.out (fun hc _ => by exact y_indexT (.opt rfl hc) (.opt rfl hc) (by first | omega | (simp; omega) | (simp at hc; omega) | (simp at hc ⊢; omega) | (simp; done)) (by first | omega | (simp; omega) | (simp at hc; omega) | (simp at hc ⊢; omega) | (simp; done))) rfl ?_ | refine dr_g rfl rfl rfl SaysI.out (fun hc _ => by exact y_index (.opt rfl hc) (.opt rfl hc) (by omega) rfl) rfl ?_ | refine dr_g rfl rfl rfl SaysI.out (fun hc _ => by exact y_indexArr (.opt rfl hc) (.opt rfl hc) rfl (by first | omega | (simp; omega) | (simp at hc; omega) | (simp at hc ⊢; omega) | (simp; done))) rfl ?_
            first | refine dr_g rfl rfl rfl SaysI.out (fun hc _ => by exact y_loadEW (.opt rfl hc) (by rfl)) rfl ?_ | refine dr_g rfl rfl rfl SaysI.out (fun hc _ => by exact y_loadEAggN (cs' := [_, _]) (.opt rfl hc) (le_ rfl) rfl) rfl ?_
            refine dr_g rfl rfl rfl SaysI.out (fun hc _ => by exact y_loadW (.plain rfl) (by first | exact .here | exact k1 | exact k2 | exact k3 | exact k4 | exact k5 | exact k6 | exact k7 | exact k8 | exact k9 | exact k10 | exact k11 | exact k12 | exact k13) (by rfl)) rfl ?_
            refine dr_g rfl rfl rfl SaysI.out (fun hc _ => by exact y_call (.plain rfl) (.cons (.imp (.opt rfl hc) (AV.Imp.agg (RowOf.imp (enc := encE)))) (.cons (.imp (.opt rfl hc) (AV.Imp.agg (RowOf.imp (enc := encE)))) .nil)) (ACalls.pure (less_c (l.getD (((k : Int) - 1).toNat) default) l[k] (Dg.prev_bd hinv.2 h3 (by simp at hc; omega) (by omega)) (by omega)))) rfl ?_
            refine dr_g rfl rfl rfl SaysI.out (fun hc _ => by exact y_geq (.opt rfl hc) (.plain rfl)) rfl ?_
            refine dr_p (fun _ => by exact y_and (.plain rfl) rfl rfl) rfl ?_
            refine dr_nil ⟨rfl, ?_⟩
            refine awp_cond rfl (fun h5 => ?_) (fun h5 => ?_)
            · skip
              try simp only [decide_eq_true_eq, decide_eq_false_iff_not, Bool.not_eq_true', Bool.not_eq_false', Bool.not_eq_true, Bool.not_eq_false, List.length_map, Int.ofNat_lt, Int.ofNat_le, Bool.or_eq_true, Bool.and_eq_true, Bool.or_eq_false_iff, Bool.and_eq_false_iff] at h5
              refine awp_seq ?_
              refine awp_region ?_
              refine st_p (fun _ => by exact y_assign (.plain rfl)) rfl ?_
              refine aops_nil ?_
              refine awp_ret ?_
              refine retG (.inr rfl) (.cons (.tmp rfl) .nil) (VShift.of1 (AV.Imp.refl _) (.nil _)) ⟨congrArg (fun x : (Int) => (AV.int x)) (show _ = (Dg.chk n l) from ?_), rfl⟩
              have he : Dg.chk n l = 9 := by rw [Dg.chk, if_neg (by omega), if_neg (by omega), hinv.1, Dg.chkL_ord n l k h3 hbk (by simp only [toNat_pred, Int.natCast_pos] at h5; omega)]
              exact he.symm
            · skip
              try simp only [decide_eq_true_eq, decide_eq_false_iff_not, Bool.not_eq_true', Bool.not_eq_false', Bool.not_eq_true, Bool.not_eq_false, List.length_map, Int.ofNat_lt, Int.ofNat_le, Bool.or_eq_true, Bool.and_eq_true, Bool.or_eq_false_iff, Bool.and_eq_false_iff] at h5
              refine awp_skip ?_
              refine awp_region ?_
              refine st_p (fun _ => by exact y_add (.plain rfl) (.plain rfl) (by first | omega | (simp; omega) | (simp at hc; omega) | (simp at hc ⊢; omega) | (simp; done))) rfl ?_
              refine st_p (fun _ => by exact y_move (.plain rfl)) rfl ?_
              refine aops_nil ?_
              refine ⟨k + 1, ?_, ?_, Weak.of2 (by (repeat (first | exact .nil _ | refine .cons rfl (by first | exact AV.Imp.refl _ | exact Sl.imp | exact AV.Imp.agg RowOf.imp | exact AV.Imp.grow_sl | exact AV.Imp.nil_grow | exact AV.Imp.full_grow | exact AV.Imp.own_grow | exact AV.Imp.grow_of rfl | exact AV.Imp.sl_of rfl | exact AV.Imp.int_of (by omega) | exact AV.Imp.of_eq (by first | omega | simpa)) ?_)); done) (by (repeat (first | exact .refl _ | exact .nil _ | apply ItLe2.cons (by first | exact .here | exact k1 | exact k2 | exact k3 | exact k4 | exact k5 | exact k6 | exact k7 | exact k8 | exact k9 | exact k10 | exact k11 | exact k12 | exact k13) | apply ItLe2.cells (by first | exact .here | exact k1 | exact k2 | exact k3 | exact k4 | exact k5 | exact k6 | exact k7 | exact k8 | exact k9 | exact k10 | exact k11 | exact k12 | exact k13) (by repeat (first | exact .nil | refine .cons (by first | exact AV.Imp.refl _ | exact Sl.imp | exact AV.Imp.agg RowOf.imp | exact AV.Imp.grow_sl | exact AV.Imp.nil_grow | exact AV.Imp.full_grow | exact AV.Imp.own_grow | exact AV.Imp.grow_of rfl | exact AV.Imp.sl_of rfl | exact AV.Imp.int_of (by omega) | exact AV.Imp.of_eq (by first | omega | simpa)) ?_)) | apply ItLe2.tail0)); done)⟩
              · refine ⟨by omega, ?_⟩
                refine ⟨hinv.1.trans (Dg.chkL_step n l k h3 hbk (by simp only [toNat_pred, Int.natCast_pos] at h5; omega)), ?_⟩
                intro i hi hik
                by_cases e : i = k
                · subst e; exact hbk
                · exact hinv.2 i hi (by omega)
              · omega
          · kernel_rfl
      · skip
        try simp only [decide_eq_true_eq, decide_eq_false_iff_not, Bool.not_eq_true', Bool.not_eq_false', Bool.not_eq_true, Bool.not_eq_false, List.length_map, Int.ofNat_lt, Int.ofNat_le, Bool.or_eq_true, Bool.and_eq_true, Bool.or_eq_false_iff, Bool.and_eq_false_iff] at h3
        refine awp_exit ?_
        refine awp_seq ?_
        refine awp_region ?_
        refine st_p (fun _ => by exact y_assign (.plain rfl)) rfl ?_
        refine aops_nil ?_
        refine awp_ret ?_
        refine retG (.inr rfl) (.cons (.tmp rfl) .nil) (VShift.of1 (AV.Imp.refl _) (.nil _)) ⟨congrArg (fun x : (Int) => (AV.int x)) (show _ = (Dg.chk n l) from ?_), rfl⟩
        have he : Dg.chk n l = 0 := by rw [Dg.chk, if_neg (by omega), if_neg (by omega), hinv.1, Dg.chkL_end n l k (by omega)]
        exact he.symm

end Go.Proofs
