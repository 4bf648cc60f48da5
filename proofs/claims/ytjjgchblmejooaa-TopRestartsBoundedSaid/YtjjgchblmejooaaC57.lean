/- The contracts of the small functions. -/
import Derived.Test.YtjjgchblmejooaaTy57
import Derived.Test.YtjjgchblmejooaaM57
set_option linter.unusedVariables false
set_option linter.unusedSimpArgs false
set_option maxRecDepth 10000
namespace Go.Proofs
open Go.Aw Wl Sv
theorem within_c (n a b : Int)  : ACalls Try.prog 22 [(AV.int n), (AV.int a), (AV.int b)] [] (fun v st => v = (AV.bool (Sv.win n a b)) ∧ st = []) := by
  refine acalls_body Try.func22 (by kernel_rfl) rfl Try.ntmps22 (le_ rfl) ?_
  rw [Try.results22]
  refine awp_seq ?_
  refine awp_region ?_
  refine st_p (fun _ => by exact y_assign (.plain rfl)) rfl ?_
  refine aops_nil ?_
  refine awp_seq ?_
  refine awp_region ?_
  refine st_p (fun _ => by exact y_move (.plain rfl)) rfl ?_
  refine st_p (fun _ => by exact y_move (.plain rfl)) rfl ?_
  refine st_p (fun _ => by exact y_geq (.plain rfl) (.plain rfl)) rfl ?_
  refine st_p (fun _ => by exact y_move (.plain rfl)) rfl ?_
  refine st_g rfl rfl rfl SaysI.out (fun hc _ => by exact y_move (.plain rfl)) rfl ?_
  refine st_g rfl rfl rfl SaysI.out (fun hc _ => by exact y_move (.plain rfl)) rfl ?_
  refine st_g rfl rfl rfl SaysI.out (fun hc _ => by exact y_leq (.opt rfl hc) (.opt rfl hc)) rfl ?_
  refine st_p (fun _ => by exact y_and (.plain rfl) rfl rfl) rfl ?_
  refine st_p (fun _ => by exact y_assign (.plain rfl)) rfl ?_
  refine aops_nil ?_
  refine awp_ret ?_
  refine retG (.inr rfl) (.cons (.tmp rfl) .nil) (VShift.of1 (AV.Imp.refl _) (.nil _)) ⟨congrArg (fun x : (Bool) => (AV.bool x)) (show _ = (Sv.win n a b) from ?_), rfl⟩
  rfl

theorem between_c (n a b : Int)  : ACalls Try.prog 14 [(AV.int n), (AV.int a), (AV.int b)] [] (fun v st => v = (AV.bool (Sv.win n a b)) ∧ st = []) := by
  refine acalls_body Try.func14 (by kernel_rfl) rfl Try.ntmps14 (le_ rfl) ?_
  rw [Try.results14]
  refine awp_seq ?_
  refine awp_region ?_
  refine st_p (fun _ => by exact y_assign (.plain rfl)) rfl ?_
  refine aops_nil ?_
  refine awp_seq ?_
  refine awp_region ?_
  refine st_p (fun _ => by exact y_move (.plain rfl)) rfl ?_
  refine st_p (fun _ => by exact y_move (.plain rfl)) rfl ?_
  refine st_p (fun _ => by exact y_geq (.plain rfl) (.plain rfl)) rfl ?_
  refine st_p (fun _ => by exact y_move (.plain rfl)) rfl ?_
  refine st_g rfl rfl rfl SaysI.out (fun hc _ => by exact y_move (.plain rfl)) rfl ?_
  refine st_g rfl rfl rfl SaysI.out (fun hc _ => by exact y_move (.plain rfl)) rfl ?_
  refine st_g rfl rfl rfl SaysI.out (fun hc _ => by exact y_leq (.opt rfl hc) (.opt rfl hc)) rfl ?_
  refine st_p (fun _ => by exact y_and (.plain rfl) rfl rfl) rfl ?_
  refine st_p (fun _ => by exact y_assign (.plain rfl)) rfl ?_
  refine aops_nil ?_
  refine awp_ret ?_
  refine retG (.inr rfl) (.cons (.tmp rfl) .nil) (VShift.of1 (AV.Imp.refl _) (.nil _)) ⟨congrArg (fun x : (Bool) => (AV.bool x)) (show _ = (Sv.win n a b) from ?_), rfl⟩
  rfl

theorem isNormal_c (n : Int)  : ACalls Try.prog 36 [(AV.int n)] [] (fun v st => v = (AV.bool (Sv.isNormal n)) ∧ st = []) := by
  refine acalls_body Try.func36 (by kernel_rfl) rfl Try.ntmps36 (le_ rfl) ?_
  rw [Try.results36]
  refine awp_seq ?_
  refine awp_region ?_
  refine st_p (fun _ => by exact y_assign (.plain rfl)) rfl ?_
  refine aops_nil ?_
  refine awp_seq ?_
  refine awp_region ?_
  refine st_p (fun _ => by exact y_move (.plain rfl)) rfl ?_
  refine st_p (fun _ => by exact y_eql (.plain rfl) (.plain rfl)) rfl ?_
  refine st_p (fun _ => by exact y_move (.plain rfl)) rfl ?_
  refine st_g rfl rfl rfl SaysI.out (fun hc _ => by exact y_move (.plain rfl)) rfl ?_
  refine st_g rfl rfl rfl SaysI.out (fun hc _ => by exact y_eql (.opt rfl hc) (.plain rfl)) rfl ?_
  refine st_p (fun _ => by exact y_or (.plain rfl) rfl rfl) rfl ?_
  refine st_p (fun _ => by exact y_assign (.plain rfl)) rfl ?_
  refine aops_nil ?_
  refine awp_ret ?_
  refine retG (.inr rfl) (.cons (.tmp rfl) .nil) (VShift.of1 (AV.Imp.refl _) (.nil _)) ⟨congrArg (fun x : (Bool) => (AV.bool x)) (show _ = (Sv.isNormal n) from ?_), rfl⟩
  rfl

theorem isReason_c (n : Int)  : ACalls Try.prog 28 [(AV.int n)] [] (fun v st => v = (AV.bool (Sv.isReason n)) ∧ st = []) := by
  refine acalls_body Try.func28 (by kernel_rfl) rfl Try.ntmps28 (le_ rfl) ?_
  rw [Try.results28]
  refine awp_seq ?_
  refine awp_region ?_
  refine st_p (fun _ => by exact y_assign (.plain rfl)) rfl ?_
  refine aops_nil ?_
  refine awp_seq ?_
  refine awp_region ?_
  refine st_p (fun _ => by exact y_move (.plain rfl)) rfl ?_
  refine aops_call (blt_lt rfl) (.plain rfl) (.cons (.plain rfl) (.cons (.plain rfl) (.cons (.plain rfl) .nil))) (ACalls.here (within_c _ _ _) ?_)
  refine st_p (fun _ => by exact y_move (.plain rfl)) rfl ?_
  refine st_g rfl rfl rfl SaysI.out (fun hc _ => by exact y_move (.plain rfl)) rfl ?_
  refine st_g rfl rfl rfl SaysI.out (fun hc _ => by exact y_call (.plain rfl) (.cons (.opt rfl hc) (.cons (.plain rfl) (.cons (.plain rfl) .nil))) (ACalls.pure (within_c _ _ _))) rfl ?_
  refine st_p (fun _ => by exact y_or (.plain rfl) rfl rfl) rfl ?_
  refine st_p (fun _ => by exact y_assign (.plain rfl)) rfl ?_
  refine aops_nil ?_
  refine awp_ret ?_
  refine retG (.inr rfl) (.cons (.tmp rfl) .nil) (VShift.of1 (AV.Imp.refl _) (.nil _)) ⟨congrArg (fun x : (Bool) => (AV.bool x)) (show _ = (Sv.isReason n) from ?_), rfl⟩
  rfl

theorem count_c (l : List Sv.Cs) (s : Int) (hl : l.length ≤ 1000000) : ACalls Try.prog 33 [(AV.sl 2 (List.map encCs l)), (AV.int s)] [] (fun v st => v = (AV.int (((l.filter (fun c : Sv.Cs => decide (c.status = s))).length : Int))) ∧ st = []) := by
  refine acalls_body Try.func33 (by kernel_rfl) rfl Try.ntmps33 (le_ rfl) ?_
  rw [Try.results33]
  refine awp_seq ?_
  refine awp_region ?_
  refine st_p (fun _ => by exact y_assign (.plain rfl)) rfl ?_
  refine aops_nil ?_
  refine awp_seq ?_
  refine awp_region ?_
  refine st_p (fun _ => by exact y_assign (.plain rfl)) rfl ?_
  refine aops_nil ?_
  refine awp_seq ?_
  refine awp_seq ?_
  refine awp_region ?_
  refine st_p (fun _ => by exact y_move (.plain rfl)) rfl ?_
  first | refine st_p (fun _ => by exact y_lenN (.plain rfl)) rfl ?_ | refine st_p (fun _ => by exact y_len (.plain rfl)) rfl ?_ | refine st_p (fun _ => by exact y_lenArr (.plain rfl)) rfl ?_ | refine st_p (fun _ => by exact y_strLen (by rfl) (.plain rfl)) rfl ?_
  refine st_p (fun _ => by exact y_move (.plain rfl)) rfl ?_
  refine aops_nil ?_
  refine awp_block ?_
  refine awp_loop2 (X := Nat) [1, 8, 9] (.cons rfl (.cons rfl (.cons rfl .nil))) (fun σ x => ((5, .int (((l.take x).filter (fun c : Sv.Cs => decide (c.status = s))).length : Int)) : Nat × AV) :: ((10, .int (x : Int)) : Nat × AV) :: σ) (fun R x => R) (fun x => x ≤ l.length) (fun x => l.length - x) 0 (by exact Weak.of2 (by (repeat (first | exact .nil _ | refine .cons rfl (by first | exact AV.Imp.refl _ | exact Sl.imp | exact AV.Imp.agg RowOf.imp | exact AV.Imp.grow_sl | exact AV.Imp.nil_grow | exact AV.Imp.full_grow | exact AV.Imp.own_grow | exact AV.Imp.grow_of rfl | exact AV.Imp.sl_of rfl | exact AV.Imp.int_of (by omega) | exact AV.Imp.of_eq (by first | omega | simpa)) ?_)); done) (by (repeat (first | exact .refl _ | exact .nil _ | apply ItLe2.cons (by first | exact .here | exact k1 | exact k2 | exact k3 | exact k4 | exact k5 | exact k6 | exact k7 | exact k8 | exact k9 | exact k10 | exact k11 | exact k12 | exact k13) | apply ItLe2.cells (by first | exact .here | exact k1 | exact k2 | exact k3 | exact k4 | exact k5 | exact k6 | exact k7 | exact k8 | exact k9 | exact k10 | exact k11 | exact k12 | exact k13) (by repeat (first | exact .nil | refine .cons (by first | exact AV.Imp.refl _ | exact Sl.imp | exact AV.Imp.agg RowOf.imp | exact AV.Imp.grow_sl | exact AV.Imp.nil_grow | exact AV.Imp.full_grow | exact AV.Imp.own_grow | exact AV.Imp.grow_of rfl | exact AV.Imp.sl_of rfl | exact AV.Imp.int_of (by omega) | exact AV.Imp.of_eq (by first | omega | simpa)) ?_)) | apply ItLe2.tail0)); done)) (Nat.zero_le _) ?_
  rintro k hk
  have hfl : ((l.take k).filter (fun c : Sv.Cs => decide (c.status = s))).length ≤ l.length := by
    have h1 := List.length_filter_le (fun c : Sv.Cs => decide (c.status = s)) (l.take k)
    rw [List.length_take] at h1; omega
  refine awp_seq ?_
  refine awp_region ?_
  refine st_p (fun _ => by exact y_lss (.plain rfl) (.plain rfl)) rfl ?_
  refine aops_nil ?_
  refine awp_seq ?_
  refine awp_cond rfl (fun h1 => ?_) (fun h1 => ?_)
  · skip
    try simp only [decide_eq_true_eq, decide_eq_false_iff_not, Bool.not_eq_true', Bool.not_eq_false', Bool.not_eq_true, Bool.not_eq_false, List.length_map, Int.ofNat_lt, Int.ofNat_le, Bool.or_eq_true, Bool.and_eq_true, Bool.or_eq_false_iff, Bool.and_eq_false_iff] at h1
    refine awp_skip ?_
    refine awp_seq ?_
    refine awp_block ?_
    refine awp_seq ?_
    refine awp_region ?_
    first | refine st_p (fun _ => by exact y_indexMap (.plain rfl) (.plain rfl) rfl (by refine ⟨?_, ?_⟩; (first | omega | (simp; omega) | (simp at hc; omega) | (simp at hc ⊢; omega) | (simp; done)); rfl)) rfl ?_ | refine st_p (fun _ => by exact y_indexT (.plain rfl) (.plain rfl) (by first | omega | (simp; omega) | (simp at hc; omega) | (simp at hc ⊢; omega) | (simp; done)) (by first | omega | (simp; omega) | (simp at hc; omega) | (simp at hc ⊢; omega) | (simp; done))) rfl ?_ | refine st_p (fun _ => by exact y_index (.plain rfl) (.plain rfl) (by omega) rfl) rfl ?_ | refine st_p (fun _ => by exact y_indexArr (.plain rfl) (.plain rfl) rfl (by first | omega | (simp; omega) | (simp at hc; omega) | (simp at hc ⊢; omega) | (simp; done))) rfl ?_
    first | refine st_p (fun _ => by exact y_loadEW (.plain rfl) (by rfl)) rfl ?_ | refine st_p (fun _ => by exact y_loadEAggN (cs' := [_, _]) (.plain rfl) (le_ rfl) rfl) rfl ?_
    refine st_n (fun _ => by exact y_alloc) rfl fun n1 => ?_
    refine st_s (fun _ => by exact y_storeW (by rfl) rfl (.plain rfl) (.plain rfl) (by first | exact .here | exact u1 | exact u2 | exact u3 | exact u4 | exact u5 | exact u6 | exact u7 | exact u8 | exact u9 | exact u10 | exact u11 | exact u12 | exact u13) (by rfl)) ?_
    refine aops_nil ?_
    refine awp_seq ?_
    refine awp_region ?_
    refine st_p (fun _ => by exact y_fieldPtr (.plain rfl)) rfl ?_
    refine st_p (fun _ => by exact y_load (.plain rfl) (by first | exact .here | exact k1 | exact k2 | exact k3 | exact k4 | exact k5 | exact k6 | exact k7 | exact k8 | exact k9 | exact k10 | exact k11 | exact k12 | exact k13) rfl) rfl ?_
    refine st_p (fun _ => by exact y_move (.plain rfl)) rfl ?_
    refine st_p (fun _ => by exact y_eql (.plain rfl) (.plain rfl)) rfl ?_
    refine aops_nil ?_
    refine awp_cond rfl (fun h2 => ?_) (fun h2 => ?_)
    · skip
      try simp only [decide_eq_true_eq, decide_eq_false_iff_not, Bool.not_eq_true', Bool.not_eq_false', Bool.not_eq_true, Bool.not_eq_false, List.length_map, Int.ofNat_lt, Int.ofNat_le, Bool.or_eq_true, Bool.and_eq_true, Bool.or_eq_false_iff, Bool.and_eq_false_iff] at h2
      have hp : (fun c : Sv.Cs => decide (c.status = s)) l[k] = true := decide_eq_true h2
      refine awp_region ?_
      refine st_p (fun _ => by exact y_move (.plain rfl)) rfl ?_
      refine st_p (fun _ => by exact y_add (.plain rfl) (.plain rfl) (by first | omega | (simp; omega) | (simp at hc; omega) | (simp at hc ⊢; omega) | (simp; done))) rfl ?_
      refine st_p (fun _ => by exact y_assign (.plain rfl)) rfl ?_
      refine aops_nil ?_
      refine awp_region ?_
      refine st_p (fun _ => by exact y_add (.plain rfl) (.plain rfl) (by first | omega | (simp; omega) | (simp at hc; omega) | (simp at hc ⊢; omega) | (simp; done))) rfl ?_
      refine st_p (fun _ => by exact y_move (.plain rfl)) rfl ?_
      refine aops_nil ?_
      refine ⟨k + 1, by omega, by omega, ?_⟩
      rw [Sv.flt_t (fun c : Sv.Cs => decide (c.status = s)) l k (by assumption) hp]
      exact Weak.of2 (by (repeat (first | exact .nil _ | refine .cons rfl (by first | exact AV.Imp.refl _ | exact AV.Imp.int_of (by push_cast; omega) | exact Sl.imp | exact AV.Imp.agg RowOf.imp | exact AV.Imp.grow_sl | exact AV.Imp.nil_grow | exact AV.Imp.full_grow | exact AV.Imp.own_grow | exact AV.Imp.grow_of rfl | exact AV.Imp.sl_of rfl | exact AV.Imp.int_of (by omega) | exact AV.Imp.of_eq (by first | omega | simpa)) ?_)); done) (by (repeat (first | exact .refl _ | exact .nil _ | apply ItLe2.cons (by first | exact .here | exact k1 | exact k2 | exact k3 | exact k4 | exact k5 | exact k6 | exact k7 | exact k8 | exact k9 | exact k10 | exact k11 | exact k12 | exact k13) | apply ItLe2.cells (by first | exact .here | exact k1 | exact k2 | exact k3 | exact k4 | exact k5 | exact k6 | exact k7 | exact k8 | exact k9 | exact k10 | exact k11 | exact k12 | exact k13) (by repeat (first | exact .nil | refine .cons (by first | exact AV.Imp.refl _ | exact Sl.imp | exact AV.Imp.agg RowOf.imp | exact AV.Imp.grow_sl | exact AV.Imp.nil_grow | exact AV.Imp.full_grow | exact AV.Imp.own_grow | exact AV.Imp.grow_of rfl | exact AV.Imp.sl_of rfl | exact AV.Imp.int_of (by omega) | exact AV.Imp.of_eq (by first | omega | simpa)) ?_)) | apply ItLe2.tail0)); done)
    · skip
      try simp only [decide_eq_true_eq, decide_eq_false_iff_not, Bool.not_eq_true', Bool.not_eq_false', Bool.not_eq_true, Bool.not_eq_false, List.length_map, Int.ofNat_lt, Int.ofNat_le, Bool.or_eq_true, Bool.and_eq_true, Bool.or_eq_false_iff, Bool.and_eq_false_iff] at h2
      have hp : (fun c : Sv.Cs => decide (c.status = s)) l[k] = false := decide_eq_false h2
      refine awp_skip ?_
      refine awp_region ?_
      refine st_p (fun _ => by exact y_add (.plain rfl) (.plain rfl) (by first | omega | (simp; omega) | (simp at hc; omega) | (simp at hc ⊢; omega) | (simp; done))) rfl ?_
      refine st_p (fun _ => by exact y_move (.plain rfl)) rfl ?_
      refine aops_nil ?_
      refine ⟨k + 1, by omega, by omega, ?_⟩
      rw [Sv.flt_f (fun c : Sv.Cs => decide (c.status = s)) l k (by assumption) hp]
      exact Weak.of2 (by (repeat (first | exact .nil _ | refine .cons rfl (by first | exact AV.Imp.refl _ | exact Sl.imp | exact AV.Imp.agg RowOf.imp | exact AV.Imp.grow_sl | exact AV.Imp.nil_grow | exact AV.Imp.full_grow | exact AV.Imp.own_grow | exact AV.Imp.grow_of rfl | exact AV.Imp.sl_of rfl | exact AV.Imp.int_of (by omega) | exact AV.Imp.of_eq (by first | omega | simpa)) ?_)); done) (by (repeat (first | exact .refl _ | exact .nil _ | apply ItLe2.cons (by first | exact .here | exact k1 | exact k2 | exact k3 | exact k4 | exact k5 | exact k6 | exact k7 | exact k8 | exact k9 | exact k10 | exact k11 | exact k12 | exact k13) | apply ItLe2.cells (by first | exact .here | exact k1 | exact k2 | exact k3 | exact k4 | exact k5 | exact k6 | exact k7 | exact k8 | exact k9 | exact k10 | exact k11 | exact k12 | exact k13) (by repeat (first | exact .nil | refine .cons (by first | exact AV.Imp.refl _ | exact Sl.imp | exact AV.Imp.agg RowOf.imp | exact AV.Imp.grow_sl | exact AV.Imp.nil_grow | exact AV.Imp.full_grow | exact AV.Imp.own_grow | exact AV.Imp.grow_of rfl | exact AV.Imp.sl_of rfl | exact AV.Imp.int_of (by omega) | exact AV.Imp.of_eq (by first | omega | simpa)) ?_)) | apply ItLe2.tail0)); done)
  · skip
    try simp only [decide_eq_true_eq, decide_eq_false_iff_not, Bool.not_eq_true', Bool.not_eq_false', Bool.not_eq_true, Bool.not_eq_false, List.length_map, Int.ofNat_lt, Int.ofNat_le, Bool.or_eq_true, Bool.and_eq_true, Bool.or_eq_false_iff, Bool.and_eq_false_iff] at h1
    refine awp_exit ?_
    refine awp_seq ?_
    refine awp_region ?_
    refine st_p (fun _ => by exact y_move (.plain rfl)) rfl ?_
    refine st_p (fun _ => by exact y_assign (.plain rfl)) rfl ?_
    refine aops_nil ?_
    refine awp_ret ?_
    refine retG (.inr rfl) (.cons (.tmp rfl) .nil) (VShift.of1 (AV.Imp.refl _) (.nil _)) ⟨congrArg (fun x : (Int) => (AV.int x)) (show _ = (((l.filter (fun c : Sv.Cs => decide (c.status = s))).length : Int)) from ?_), rfl⟩
    obtain rfl : k = l.length := by omega
    rw [List.take_length]

theorem tcount_c (l : List Sv.Evt) (s : Int) (hl : l.length ≤ 1000000) : ACalls Try.prog 8 [(AV.sl 4 (List.map encEv l)), (AV.int s)] [] (fun v st => v = (AV.int (((l.filter (fun c : Sv.Evt => decide (c.kind = s))).length : Int))) ∧ st = []) := by
  refine acalls_body Try.func8 (by kernel_rfl) rfl Try.ntmps8 (le_ rfl) ?_
  rw [Try.results8]
  refine awp_seq ?_
  refine awp_region ?_
  refine st_p (fun _ => by exact y_assign (.plain rfl)) rfl ?_
  refine aops_nil ?_
  refine awp_seq ?_
  refine awp_region ?_
  refine st_p (fun _ => by exact y_assign (.plain rfl)) rfl ?_
  refine aops_nil ?_
  refine awp_seq ?_
  refine awp_seq ?_
  refine awp_region ?_
  refine st_p (fun _ => by exact y_move (.plain rfl)) rfl ?_
  first | refine st_p (fun _ => by exact y_lenN (.plain rfl)) rfl ?_ | refine st_p (fun _ => by exact y_len (.plain rfl)) rfl ?_ | refine st_p (fun _ => by exact y_lenArr (.plain rfl)) rfl ?_ | refine st_p (fun _ => by exact y_strLen (by rfl) (.plain rfl)) rfl ?_
  refine st_p (fun _ => by exact y_move (.plain rfl)) rfl ?_
  refine aops_nil ?_
  refine awp_block ?_
  refine awp_loop2 (X := Nat) [1, 8, 9] (.cons rfl (.cons rfl (.cons rfl .nil))) (fun σ x => ((5, .int (((l.take x).filter (fun c : Sv.Evt => decide (c.kind = s))).length : Int)) : Nat × AV) :: ((10, .int (x : Int)) : Nat × AV) :: σ) (fun R x => R) (fun x => x ≤ l.length) (fun x => l.length - x) 0 (by exact Weak.of2 (by (repeat (first | exact .nil _ | refine .cons rfl (by first | exact AV.Imp.refl _ | exact Sl.imp | exact AV.Imp.agg RowOf.imp | exact AV.Imp.grow_sl | exact AV.Imp.nil_grow | exact AV.Imp.full_grow | exact AV.Imp.own_grow | exact AV.Imp.grow_of rfl | exact AV.Imp.sl_of rfl | exact AV.Imp.int_of (by omega) | exact AV.Imp.of_eq (by first | omega | simpa)) ?_)); done) (by (repeat (first | exact .refl _ | exact .nil _ | apply ItLe2.cons (by first | exact .here | exact k1 | exact k2 | exact k3 | exact k4 | exact k5 | exact k6 | exact k7 | exact k8 | exact k9 | exact k10 | exact k11 | exact k12 | exact k13) | apply ItLe2.cells (by first | exact .here | exact k1 | exact k2 | exact k3 | exact k4 | exact k5 | exact k6 | exact k7 | exact k8 | exact k9 | exact k10 | exact k11 | exact k12 | exact k13) (by repeat (first | exact .nil | refine .cons (by first | exact AV.Imp.refl _ | exact Sl.imp | exact AV.Imp.agg RowOf.imp | exact AV.Imp.grow_sl | exact AV.Imp.nil_grow | exact AV.Imp.full_grow | exact AV.Imp.own_grow | exact AV.Imp.grow_of rfl | exact AV.Imp.sl_of rfl | exact AV.Imp.int_of (by omega) | exact AV.Imp.of_eq (by first | omega | simpa)) ?_)) | apply ItLe2.tail0)); done)) (Nat.zero_le _) ?_
  rintro k hk
  have hfl : ((l.take k).filter (fun c : Sv.Evt => decide (c.kind = s))).length ≤ l.length := by
    have h1 := List.length_filter_le (fun c : Sv.Evt => decide (c.kind = s)) (l.take k)
    rw [List.length_take] at h1; omega
  refine awp_seq ?_
  refine awp_region ?_
  refine st_p (fun _ => by exact y_lss (.plain rfl) (.plain rfl)) rfl ?_
  refine aops_nil ?_
  refine awp_seq ?_
  refine awp_cond rfl (fun h1 => ?_) (fun h1 => ?_)
  · skip
    try simp only [decide_eq_true_eq, decide_eq_false_iff_not, Bool.not_eq_true', Bool.not_eq_false', Bool.not_eq_true, Bool.not_eq_false, List.length_map, Int.ofNat_lt, Int.ofNat_le, Bool.or_eq_true, Bool.and_eq_true, Bool.or_eq_false_iff, Bool.and_eq_false_iff] at h1
    refine awp_skip ?_
    refine awp_seq ?_
    refine awp_block ?_
    refine awp_seq ?_
    refine awp_region ?_
    first | refine st_p (fun _ => by exact y_indexMap (.plain rfl) (.plain rfl) rfl (by refine ⟨?_, ?_⟩; (first | omega | (simp; omega) | (simp at hc; omega) | (simp at hc ⊢; omega) | (simp; done)); rfl)) rfl ?_ | refine st_p (fun _ => by exact y_indexT (.plain rfl) (.plain rfl) (by first | omega | (simp; omega) | (simp at hc; omega) | (simp at hc ⊢; omega) | (simp; done)) (by first | omega | (simp; omega) | (simp at hc; omega) | (simp at hc ⊢; omega) | (simp; done))) rfl ?_ | refine st_p (fun _ => by exact y_index (.plain rfl) (.plain rfl) (by omega) rfl) rfl ?_ | refine st_p (fun _ => by exact y_indexArr (.plain rfl) (.plain rfl) rfl (by first | omega | (simp; omega) | (simp at hc; omega) | (simp at hc ⊢; omega) | (simp; done))) rfl ?_
    first | refine st_p (fun _ => by exact y_loadEW (.plain rfl) (by rfl)) rfl ?_ | refine st_p (fun _ => by exact y_loadEAggN (cs' := [_, _, _, _]) (.plain rfl) (le_ rfl) rfl) rfl ?_
    refine st_n (fun _ => by exact y_alloc) rfl fun n1 => ?_
    refine st_s (fun _ => by exact y_storeW (by rfl) rfl (.plain rfl) (.plain rfl) (by first | exact .here | exact u1 | exact u2 | exact u3 | exact u4 | exact u5 | exact u6 | exact u7 | exact u8 | exact u9 | exact u10 | exact u11 | exact u12 | exact u13) (by rfl)) ?_
    refine aops_nil ?_
    refine awp_seq ?_
    refine awp_region ?_
    refine st_p (fun _ => by exact y_fieldPtr (.plain rfl)) rfl ?_
    refine st_p (fun _ => by exact y_load (.plain rfl) (by first | exact .here | exact k1 | exact k2 | exact k3 | exact k4 | exact k5 | exact k6 | exact k7 | exact k8 | exact k9 | exact k10 | exact k11 | exact k12 | exact k13) rfl) rfl ?_
    refine st_p (fun _ => by exact y_move (.plain rfl)) rfl ?_
    refine st_p (fun _ => by exact y_eql (.plain rfl) (.plain rfl)) rfl ?_
    refine aops_nil ?_
    refine awp_cond rfl (fun h2 => ?_) (fun h2 => ?_)
    · skip
      try simp only [decide_eq_true_eq, decide_eq_false_iff_not, Bool.not_eq_true', Bool.not_eq_false', Bool.not_eq_true, Bool.not_eq_false, List.length_map, Int.ofNat_lt, Int.ofNat_le, Bool.or_eq_true, Bool.and_eq_true, Bool.or_eq_false_iff, Bool.and_eq_false_iff] at h2
      have hp : (fun c : Sv.Evt => decide (c.kind = s)) l[k] = true := decide_eq_true h2
      refine awp_region ?_
      refine st_p (fun _ => by exact y_move (.plain rfl)) rfl ?_
      refine st_p (fun _ => by exact y_add (.plain rfl) (.plain rfl) (by first | omega | (simp; omega) | (simp at hc; omega) | (simp at hc ⊢; omega) | (simp; done))) rfl ?_
      refine st_p (fun _ => by exact y_assign (.plain rfl)) rfl ?_
      refine aops_nil ?_
      refine awp_region ?_
      refine st_p (fun _ => by exact y_add (.plain rfl) (.plain rfl) (by first | omega | (simp; omega) | (simp at hc; omega) | (simp at hc ⊢; omega) | (simp; done))) rfl ?_
      refine st_p (fun _ => by exact y_move (.plain rfl)) rfl ?_
      refine aops_nil ?_
      refine ⟨k + 1, by omega, by omega, ?_⟩
      rw [Sv.flt_t (fun c : Sv.Evt => decide (c.kind = s)) l k (by assumption) hp]
      exact Weak.of2 (by (repeat (first | exact .nil _ | refine .cons rfl (by first | exact AV.Imp.refl _ | exact AV.Imp.int_of (by push_cast; omega) | exact Sl.imp | exact AV.Imp.agg RowOf.imp | exact AV.Imp.grow_sl | exact AV.Imp.nil_grow | exact AV.Imp.full_grow | exact AV.Imp.own_grow | exact AV.Imp.grow_of rfl | exact AV.Imp.sl_of rfl | exact AV.Imp.int_of (by omega) | exact AV.Imp.of_eq (by first | omega | simpa)) ?_)); done) (by (repeat (first | exact .refl _ | exact .nil _ | apply ItLe2.cons (by first | exact .here | exact k1 | exact k2 | exact k3 | exact k4 | exact k5 | exact k6 | exact k7 | exact k8 | exact k9 | exact k10 | exact k11 | exact k12 | exact k13) | apply ItLe2.cells (by first | exact .here | exact k1 | exact k2 | exact k3 | exact k4 | exact k5 | exact k6 | exact k7 | exact k8 | exact k9 | exact k10 | exact k11 | exact k12 | exact k13) (by repeat (first | exact .nil | refine .cons (by first | exact AV.Imp.refl _ | exact Sl.imp | exact AV.Imp.agg RowOf.imp | exact AV.Imp.grow_sl | exact AV.Imp.nil_grow | exact AV.Imp.full_grow | exact AV.Imp.own_grow | exact AV.Imp.grow_of rfl | exact AV.Imp.sl_of rfl | exact AV.Imp.int_of (by omega) | exact AV.Imp.of_eq (by first | omega | simpa)) ?_)) | apply ItLe2.tail0)); done)
    · skip
      try simp only [decide_eq_true_eq, decide_eq_false_iff_not, Bool.not_eq_true', Bool.not_eq_false', Bool.not_eq_true, Bool.not_eq_false, List.length_map, Int.ofNat_lt, Int.ofNat_le, Bool.or_eq_true, Bool.and_eq_true, Bool.or_eq_false_iff, Bool.and_eq_false_iff] at h2
      have hp : (fun c : Sv.Evt => decide (c.kind = s)) l[k] = false := decide_eq_false h2
      refine awp_skip ?_
      refine awp_region ?_
      refine st_p (fun _ => by exact y_add (.plain rfl) (.plain rfl) (by first | omega | (simp; omega) | (simp at hc; omega) | (simp at hc ⊢; omega) | (simp; done))) rfl ?_
      refine st_p (fun _ => by exact y_move (.plain rfl)) rfl ?_
      refine aops_nil ?_
      refine ⟨k + 1, by omega, by omega, ?_⟩
      rw [Sv.flt_f (fun c : Sv.Evt => decide (c.kind = s)) l k (by assumption) hp]
      exact Weak.of2 (by (repeat (first | exact .nil _ | refine .cons rfl (by first | exact AV.Imp.refl _ | exact Sl.imp | exact AV.Imp.agg RowOf.imp | exact AV.Imp.grow_sl | exact AV.Imp.nil_grow | exact AV.Imp.full_grow | exact AV.Imp.own_grow | exact AV.Imp.grow_of rfl | exact AV.Imp.sl_of rfl | exact AV.Imp.int_of (by omega) | exact AV.Imp.of_eq (by first | omega | simpa)) ?_)); done) (by (repeat (first | exact .refl _ | exact .nil _ | apply ItLe2.cons (by first | exact .here | exact k1 | exact k2 | exact k3 | exact k4 | exact k5 | exact k6 | exact k7 | exact k8 | exact k9 | exact k10 | exact k11 | exact k12 | exact k13) | apply ItLe2.cells (by first | exact .here | exact k1 | exact k2 | exact k3 | exact k4 | exact k5 | exact k6 | exact k7 | exact k8 | exact k9 | exact k10 | exact k11 | exact k12 | exact k13) (by repeat (first | exact .nil | refine .cons (by first | exact AV.Imp.refl _ | exact Sl.imp | exact AV.Imp.agg RowOf.imp | exact AV.Imp.grow_sl | exact AV.Imp.nil_grow | exact AV.Imp.full_grow | exact AV.Imp.own_grow | exact AV.Imp.grow_of rfl | exact AV.Imp.sl_of rfl | exact AV.Imp.int_of (by omega) | exact AV.Imp.of_eq (by first | omega | simpa)) ?_)) | apply ItLe2.tail0)); done)
  · skip
    try simp only [decide_eq_true_eq, decide_eq_false_iff_not, Bool.not_eq_true', Bool.not_eq_false', Bool.not_eq_true, Bool.not_eq_false, List.length_map, Int.ofNat_lt, Int.ofNat_le, Bool.or_eq_true, Bool.and_eq_true, Bool.or_eq_false_iff, Bool.and_eq_false_iff] at h1
    refine awp_exit ?_
    refine awp_seq ?_
    refine awp_region ?_
    refine st_p (fun _ => by exact y_move (.plain rfl)) rfl ?_
    refine st_p (fun _ => by exact y_assign (.plain rfl)) rfl ?_
    refine aops_nil ?_
    refine awp_ret ?_
    refine retG (.inr rfl) (.cons (.tmp rfl) .nil) (VShift.of1 (AV.Imp.refl _) (.nil _)) ⟨congrArg (fun x : (Int) => (AV.int x)) (show _ = (((l.filter (fun c : Sv.Evt => decide (c.kind = s))).length : Int)) from ?_), rfl⟩
    obtain rfl : k = l.length := by omega
    rw [List.take_length]

theorem isName_c (b : ByteArray) (hb : b.size ≤ 1000000) : ACalls Try.prog 23 [(AV.val (.string b))] [] (fun v st => v = (AV.bool (Sv.isName b)) ∧ st = []) := by
  refine acalls_body Try.func23 (by kernel_rfl) rfl Try.ntmps23 (le_ rfl) ?_
  rw [Try.results23]
  have hbl := bys_len b
  refine awp_seq ?_
  refine awp_region ?_
  refine st_p (fun _ => by exact y_assign (.plain rfl)) rfl ?_
  refine aops_nil ?_
  refine awp_seq ?_
  refine awp_seq ?_
  refine awp_region ?_
  refine st_p (fun _ => by exact y_move (.plain rfl)) rfl ?_
  refine st_p (fun _ => by exact y_bytes (by rfl) (by rfl) (.plain rfl)) rfl ?_
  first | refine st_p (fun _ => by exact y_lenN (.plain rfl)) rfl ?_ | refine st_p (fun _ => by exact y_len (.plain rfl)) rfl ?_ | refine st_p (fun _ => by exact y_lenArr (.plain rfl)) rfl ?_ | refine st_p (fun _ => by exact y_strLen (by rfl) (.plain rfl)) rfl ?_
  refine st_p (fun _ => by exact y_move (.plain rfl)) rfl ?_
  refine aops_nil ?_
  refine awp_block ?_
  refine awp_loop2 (X := Nat) [0, 7, 8] (.cons rfl (.cons rfl (.cons rfl .nil))) (fun σ x => ((9, .int (x : Int)) : Nat × AV) :: σ) (fun R x => R) (fun x => x ≤ (bys b).length ∧ (∀ i, i < x → Sv.okAt (bys b) i = true)) (fun x => (bys b).length - x) 0 (by exact Weak.of2 (by (repeat (first | exact .nil _ | refine .cons rfl (by first | exact AV.Imp.refl _ | exact Sl.imp | exact AV.Imp.agg RowOf.imp | exact AV.Imp.grow_sl | exact AV.Imp.nil_grow | exact AV.Imp.full_grow | exact AV.Imp.own_grow | exact AV.Imp.grow_of rfl | exact AV.Imp.sl_of rfl | exact AV.Imp.int_of (by omega) | exact AV.Imp.of_eq (by first | omega | simpa)) ?_)); done) (by (repeat (first | exact .refl _ | exact .nil _ | apply ItLe2.cons (by first | exact .here | exact k1 | exact k2 | exact k3 | exact k4 | exact k5 | exact k6 | exact k7 | exact k8 | exact k9 | exact k10 | exact k11 | exact k12 | exact k13) | apply ItLe2.cells (by first | exact .here | exact k1 | exact k2 | exact k3 | exact k4 | exact k5 | exact k6 | exact k7 | exact k8 | exact k9 | exact k10 | exact k11 | exact k12 | exact k13) (by repeat (first | exact .nil | refine .cons (by first | exact AV.Imp.refl _ | exact Sl.imp | exact AV.Imp.agg RowOf.imp | exact AV.Imp.grow_sl | exact AV.Imp.nil_grow | exact AV.Imp.full_grow | exact AV.Imp.own_grow | exact AV.Imp.grow_of rfl | exact AV.Imp.sl_of rfl | exact AV.Imp.int_of (by omega) | exact AV.Imp.of_eq (by first | omega | simpa)) ?_)) | apply ItLe2.tail0)); done)) ⟨Nat.zero_le _, by omega⟩ ?_
  rintro k ⟨hk, hinv⟩
  refine awp_seq ?_
  refine awp_region ?_
  refine st_p (fun _ => by exact y_lss (.plain rfl) (.plain rfl)) rfl ?_
  refine aops_nil ?_
  refine awp_seq ?_
  refine awp_cond rfl (fun h1 => ?_) (fun h1 => ?_)
  · skip
    try simp only [decide_eq_true_eq, decide_eq_false_iff_not, Bool.not_eq_true', Bool.not_eq_false', Bool.not_eq_true, Bool.not_eq_false, List.length_map, Int.ofNat_lt, Int.ofNat_le, Bool.or_eq_true, Bool.and_eq_true, Bool.or_eq_false_iff, Bool.and_eq_false_iff] at h1
    refine awp_skip ?_
    refine awp_seq ?_
    refine awp_block ?_
    refine awp_seq ?_
    refine awp_region ?_
    refine st_p (fun _ => by exact y_move (.plain rfl)) rfl ?_
    first | refine st_p (fun _ => by exact y_indexMap (.plain rfl) (.plain rfl) rfl (by refine ⟨?_, ?_⟩; (first | omega | (simp; omega) | (simp at hc; omega) | (simp at hc ⊢; omega) | (simp; done)); rfl)) rfl ?_ | refine st_p (fun _ => by exact y_indexT (.plain rfl) (.plain rfl) (by first | omega | (simp; omega) | (simp at hc; omega) | (simp at hc ⊢; omega) | (simp; done)) (by first | omega | (simp; omega) | (simp at hc; omega) | (simp at hc ⊢; omega) | (simp; done))) rfl ?_ | refine st_p (fun _ => by exact y_index (.plain rfl) (.plain rfl) (by omega) rfl) rfl ?_ | refine st_p (fun _ => by exact y_indexArr (.plain rfl) (.plain rfl) rfl (by first | omega | (simp; omega) | (simp at hc; omega) | (simp at hc ⊢; omega) | (simp; done))) rfl ?_
    refine st_p (fun _ => by exact y_loadE (.plain rfl) rfl) rfl ?_
    refine st_p (fun _ => by exact y_assign (.plain rfl)) rfl ?_
    refine st_p (fun _ => by exact y_assign (.plain rfl)) rfl ?_
    refine aops_nil ?_
    refine awp_seq ?_
    refine awp_region ?_
    refine st_p (fun _ => by exact y_move (.plain rfl)) rfl ?_
    refine st_p (fun _ => by exact y_geq (.plain rfl) (.plain rfl)) rfl ?_
    refine st_p (fun _ => by exact y_move (.plain rfl)) rfl ?_
    refine st_g rfl rfl rfl SaysI.out (fun hc _ => by exact y_move (.plain rfl)) rfl ?_
    refine st_g rfl rfl rfl SaysI.out (fun hc _ => by exact y_leq (.opt rfl hc) (.plain rfl)) rfl ?_
    refine st_p (fun _ => by exact y_and (.plain rfl) rfl rfl) rfl ?_
    refine st_p (fun _ => by exact y_assign (.plain rfl)) rfl ?_
    refine aops_nil ?_
    refine awp_seq ?_
    refine awp_region ?_
    refine st_p (fun _ => by exact y_move (.plain rfl)) rfl ?_
    refine st_p (fun _ => by exact y_not (.plain rfl)) rfl ?_
    refine st_p (fun _ => by exact y_move (.plain rfl)) rfl ?_
    refine st_g rfl rfl rfl SaysI.out (fun hc _ => by exact y_move (.plain rfl)) rfl ?_
    refine st_g rfl rfl rfl SaysI.out (fun hc _ => by exact y_eql (.opt rfl hc) (.plain rfl)) rfl ?_
    refine st_g rfl rfl rfl SaysI.out (fun hc _ => by exact y_move (.opt rfl hc)) rfl ?_
    refine st_g rfl rfl rfl SaysI.out (fun hc _ => by exact y_move (.plain rfl)) rfl ?_
    refine st_g rfl rfl rfl SaysI.out (fun hc _ => by exact y_neq (.opt rfl hc) (.plain rfl)) rfl ?_
    refine st_g rfl rfl rfl SaysI.out (fun hc _ => by exact y_move (.opt rfl hc)) rfl ?_
    refine st_g rfl rfl rfl SaysI.out (fun hc _ => by exact y_move (.plain rfl)) rfl ?_
    refine st_g rfl rfl rfl SaysI.out (fun hc _ => by exact y_lss (.opt rfl hc) (.plain rfl)) rfl ?_
    refine st_g rfl rfl rfl SaysI.out (fun hc _ => by exact y_move (.opt rfl hc)) rfl ?_
    refine st_g rfl rfl rfl SaysI.out (fun hc _ => by exact y_move (.plain rfl)) rfl ?_
    refine st_g rfl rfl rfl SaysI.out (fun hc _ => by exact y_gtr (.opt rfl hc) (.plain rfl)) rfl ?_
    first | refine st_g rfl rfl rfl SaysI.out (fun hc _ => by exact y_or' hc (.opt rfl hc) rfl rfl) rfl ?_ | refine st_g rfl rfl rfl SaysI.out (fun hc _ => by exact y_or (.opt rfl hc) rfl rfl) rfl ?_
    first | refine st_g rfl rfl rfl SaysI.out (fun hc _ => by exact y_and' hc (.opt rfl hc) rfl rfl) rfl ?_ | refine st_g rfl rfl rfl SaysI.out (fun hc _ => by exact y_and (.opt rfl hc) rfl rfl) rfl ?_
    first | refine st_g rfl rfl rfl SaysI.out (fun hc _ => by exact y_or' hc (.opt rfl hc) rfl rfl) rfl ?_ | refine st_g rfl rfl rfl SaysI.out (fun hc _ => by exact y_or (.opt rfl hc) rfl rfl) rfl ?_
    refine st_p (fun _ => by exact y_and (.plain rfl) rfl rfl) rfl ?_
    refine aops_nil ?_
    refine awp_cond rfl (fun h2 => ?_) (fun h2 => ?_)
    · skip
      try simp only [decide_eq_true_eq, decide_eq_false_iff_not, Bool.not_eq_true', Bool.not_eq_false', Bool.not_eq_true, Bool.not_eq_false, List.length_map, Int.ofNat_lt, Int.ofNat_le, Bool.or_eq_true, Bool.and_eq_true, Bool.or_eq_false_iff, Bool.and_eq_false_iff] at h2
      try simp only [decide_eq_true_eq, decide_eq_false_iff_not] at h2
      have hok : Sv.okAt (bys b) k = false := by
        rw [Sv.okAt_get (by assumption), Bool.eq_false_iff]
        unfold Sv.small Sv.digit
        simp only [ne_eq, Bool.or_eq_true, Bool.and_eq_true, decide_eq_true_eq]
        omega
      refine awp_seq ?_
      refine awp_region ?_
      refine st_p (fun _ => by exact y_assign (.plain rfl)) rfl ?_
      refine aops_nil ?_
      refine awp_ret ?_
      refine retG (.inr rfl) (.cons (.tmp rfl) .nil) (VShift.of1 (AV.Imp.refl _) (.nil _)) ⟨congrArg (fun x : (Bool) => (AV.bool x)) (show _ = (Sv.isName b) from ?_), rfl⟩
      rw [Sv.isName_bad (by assumption) hok]
    · skip
      try simp only [decide_eq_true_eq, decide_eq_false_iff_not, Bool.not_eq_true', Bool.not_eq_false', Bool.not_eq_true, Bool.not_eq_false, List.length_map, Int.ofNat_lt, Int.ofNat_le, Bool.or_eq_true, Bool.and_eq_true, Bool.or_eq_false_iff, Bool.and_eq_false_iff] at h2
      try simp only [decide_eq_true_eq, decide_eq_false_iff_not] at h2
      have hok : Sv.okAt (bys b) k = true := by
        rw [Sv.okAt_get (by assumption)]
        unfold Sv.small Sv.digit
        simp only [Bool.or_eq_true, Bool.and_eq_true, decide_eq_true_eq]
        omega
      refine awp_skip ?_
      refine awp_region ?_
      refine st_p (fun _ => by exact y_add (.plain rfl) (.plain rfl) (by first | omega | (simp; omega) | (simp at hc; omega) | (simp at hc ⊢; omega) | (simp; done))) rfl ?_
      refine st_p (fun _ => by exact y_move (.plain rfl)) rfl ?_
      refine aops_nil ?_
      refine ⟨k + 1, ?_, ?_, Weak.of2 (by (repeat (first | exact .nil _ | refine .cons rfl (by first | exact AV.Imp.refl _ | exact Sl.imp | exact AV.Imp.agg RowOf.imp | exact AV.Imp.grow_sl | exact AV.Imp.nil_grow | exact AV.Imp.full_grow | exact AV.Imp.own_grow | exact AV.Imp.grow_of rfl | exact AV.Imp.sl_of rfl | exact AV.Imp.int_of (by omega) | exact AV.Imp.of_eq (by first | omega | simpa)) ?_)); done) (by (repeat (first | exact .refl _ | exact .nil _ | apply ItLe2.cons (by first | exact .here | exact k1 | exact k2 | exact k3 | exact k4 | exact k5 | exact k6 | exact k7 | exact k8 | exact k9 | exact k10 | exact k11 | exact k12 | exact k13) | apply ItLe2.cells (by first | exact .here | exact k1 | exact k2 | exact k3 | exact k4 | exact k5 | exact k6 | exact k7 | exact k8 | exact k9 | exact k10 | exact k11 | exact k12 | exact k13) (by repeat (first | exact .nil | refine .cons (by first | exact AV.Imp.refl _ | exact Sl.imp | exact AV.Imp.agg RowOf.imp | exact AV.Imp.grow_sl | exact AV.Imp.nil_grow | exact AV.Imp.full_grow | exact AV.Imp.own_grow | exact AV.Imp.grow_of rfl | exact AV.Imp.sl_of rfl | exact AV.Imp.int_of (by omega) | exact AV.Imp.of_eq (by first | omega | simpa)) ?_)) | apply ItLe2.tail0)); done)⟩
      · refine ⟨by omega, ?_⟩
        intro i hik
        by_cases e : i = k
        · subst e; exact hok
        · exact hinv i (by omega)
      · omega
  · skip
    try simp only [decide_eq_true_eq, decide_eq_false_iff_not, Bool.not_eq_true', Bool.not_eq_false', Bool.not_eq_true, Bool.not_eq_false, List.length_map, Int.ofNat_lt, Int.ofNat_le, Bool.or_eq_true, Bool.and_eq_true, Bool.or_eq_false_iff, Bool.and_eq_false_iff] at h1
    refine awp_exit ?_
    refine awp_seq ?_
    refine awp_region ?_
    refine st_p (fun _ => by exact y_move (.plain rfl)) rfl ?_
    first | refine st_p (fun _ => by exact y_lenN (.plain rfl)) rfl ?_ | refine st_p (fun _ => by exact y_len (.plain rfl)) rfl ?_ | refine st_p (fun _ => by exact y_lenArr (.plain rfl)) rfl ?_ | refine st_p (fun _ => by exact y_strLen (by rfl) (.plain rfl)) rfl ?_
    refine st_p (fun _ => by exact y_geq (.plain rfl) (.plain rfl)) rfl ?_
    refine st_p (fun _ => by exact y_move (.plain rfl)) rfl ?_
    refine st_g rfl rfl rfl SaysI.out (fun hc _ => by exact y_move (.plain rfl)) rfl ?_
    first | refine st_g rfl rfl rfl SaysI.out (fun hc _ => by exact y_lenN (.opt rfl hc)) rfl ?_ | refine st_g rfl rfl rfl SaysI.out (fun hc _ => by exact y_len (.opt rfl hc)) rfl ?_ | refine st_g rfl rfl rfl SaysI.out (fun hc _ => by exact y_lenArr (.opt rfl hc)) rfl ?_ | refine st_g rfl rfl rfl SaysI.out (fun hc _ => by exact y_strLen (by rfl) (.opt rfl hc)) rfl ?_
    refine st_g rfl rfl rfl SaysI.out (fun hc _ => by exact y_leq (.opt rfl hc) (.plain rfl)) rfl ?_
    refine st_p (fun _ => by exact y_and (.plain rfl) rfl rfl) rfl ?_
    refine st_p (fun _ => by exact y_assign (.plain rfl)) rfl ?_
    refine aops_nil ?_
    refine awp_ret ?_
    refine retG (.inr rfl) (.cons (.tmp rfl) .nil) (VShift.of1 (AV.Imp.refl _) (.nil _)) ⟨congrArg (fun x : (Bool) => (AV.bool x)) (show _ = (Sv.isName b) from ?_), rfl⟩
    rw [Sv.isName_good (fun i hi => hinv i (by omega)), Bool.eq_iff_iff]
    simp only [Bool.and_eq_true, decide_eq_true_eq]
    omega

theorem IsName_c (b : ByteArray) (hb : b.size ≤ 1000000) : ACalls Try.prog 15 [(AV.val (.string b))] [] (fun v st => v = (AV.bool (Sv.isName b)) ∧ st = []) := by
  refine acalls_body Try.func15 (by kernel_rfl) rfl Try.ntmps15 (le_ rfl) ?_
  rw [Try.results15]
  have hbl := bys_len b
  refine awp_seq ?_
  refine awp_region ?_
  refine st_p (fun _ => by exact y_assign (.plain rfl)) rfl ?_
  refine aops_nil ?_
  refine awp_seq ?_
  refine awp_seq ?_
  refine awp_region ?_
  refine st_p (fun _ => by exact y_move (.plain rfl)) rfl ?_
  refine st_p (fun _ => by exact y_strEq (.plain rfl) (.plain rfl)) rfl ?_
  refine st_p (fun _ => by exact y_move (.plain rfl)) rfl ?_
  refine st_g rfl rfl rfl SaysI.out (fun hc _ => by exact y_move (.plain rfl)) rfl ?_
  first | refine st_g rfl rfl rfl SaysI.out (fun hc _ => by exact y_lenN (.opt rfl hc)) rfl ?_ | refine st_g rfl rfl rfl SaysI.out (fun hc _ => by exact y_len (.opt rfl hc)) rfl ?_ | refine st_g rfl rfl rfl SaysI.out (fun hc _ => by exact y_lenArr (.opt rfl hc)) rfl ?_ | refine st_g rfl rfl rfl SaysI.out (fun hc _ => by exact y_strLen (by rfl) (.opt rfl hc)) rfl ?_
  refine st_g rfl rfl rfl SaysI.out (fun hc _ => by exact y_gtr (.opt rfl hc) (.plain rfl)) rfl ?_
  refine st_p (fun _ => by exact y_or (.plain rfl) rfl rfl) rfl ?_
  refine aops_nil ?_
  refine awp_cond rfl (fun h1 => ?_) (fun h1 => ?_)
  · skip
    try simp only [decide_eq_true_eq, decide_eq_false_iff_not, Bool.not_eq_true', Bool.not_eq_false', Bool.not_eq_true, Bool.not_eq_false, List.length_map, Int.ofNat_lt, Int.ofNat_le, Bool.or_eq_true, Bool.and_eq_true, Bool.or_eq_false_iff, Bool.and_eq_false_iff] at h1
    try rw [Sv.same_nil] at h1
    try simp only [decide_eq_true_eq] at h1
    have hsz : ¬ (1 ≤ b.size ∧ b.size ≤ 30) := by omega
    refine awp_seq ?_
    refine awp_region ?_
    refine st_p (fun _ => by exact y_assign (.plain rfl)) rfl ?_
    refine aops_nil ?_
    refine awp_ret ?_
    refine retG (.inr rfl) (.cons (.tmp rfl) .nil) (VShift.of1 (AV.Imp.refl _) (.nil _)) ⟨congrArg (fun x : (Bool) => (AV.bool x)) (show _ = (Sv.isName b) from ?_), rfl⟩
    rw [Sv.isName_size hsz]
  · skip
    try simp only [decide_eq_true_eq, decide_eq_false_iff_not, Bool.not_eq_true', Bool.not_eq_false', Bool.not_eq_true, Bool.not_eq_false, List.length_map, Int.ofNat_lt, Int.ofNat_le, Bool.or_eq_true, Bool.and_eq_true, Bool.or_eq_false_iff, Bool.and_eq_false_iff] at h1
    try rw [Sv.same_nil] at h1
    try simp only [decide_eq_false_iff_not] at h1
    have hsz : 1 ≤ b.size ∧ b.size ≤ 30 := by omega
    refine awp_skip ?_
    refine awp_seq ?_
    refine awp_seq ?_
    refine awp_region ?_
    refine st_p (fun _ => by exact y_assign (.plain rfl)) rfl ?_
    refine aops_nil ?_
    refine awp_block ?_
    refine awp_loop2 (X := Nat) [0] (.cons rfl .nil) (fun σ x => ((3, .int (x : Int)) : Nat × AV) :: σ) (fun R x => R) (fun x => x ≤ (bys b).length ∧ (∀ i, i < x → Sv.okAt (bys b) i = true)) (fun x => (bys b).length - x) 0 (by exact Weak.of2 (by (repeat (first | exact .nil _ | refine .cons rfl (by first | exact AV.Imp.refl _ | exact Sl.imp | exact AV.Imp.agg RowOf.imp | exact AV.Imp.grow_sl | exact AV.Imp.nil_grow | exact AV.Imp.full_grow | exact AV.Imp.own_grow | exact AV.Imp.grow_of rfl | exact AV.Imp.sl_of rfl | exact AV.Imp.int_of (by omega) | exact AV.Imp.of_eq (by first | omega | simpa)) ?_)); done) (by (repeat (first | exact .refl _ | exact .nil _ | apply ItLe2.cons (by first | exact .here | exact k1 | exact k2 | exact k3 | exact k4 | exact k5 | exact k6 | exact k7 | exact k8 | exact k9 | exact k10 | exact k11 | exact k12 | exact k13) | apply ItLe2.cells (by first | exact .here | exact k1 | exact k2 | exact k3 | exact k4 | exact k5 | exact k6 | exact k7 | exact k8 | exact k9 | exact k10 | exact k11 | exact k12 | exact k13) (by repeat (first | exact .nil | refine .cons (by first | exact AV.Imp.refl _ | exact Sl.imp | exact AV.Imp.agg RowOf.imp | exact AV.Imp.grow_sl | exact AV.Imp.nil_grow | exact AV.Imp.full_grow | exact AV.Imp.own_grow | exact AV.Imp.grow_of rfl | exact AV.Imp.sl_of rfl | exact AV.Imp.int_of (by omega) | exact AV.Imp.of_eq (by first | omega | simpa)) ?_)) | apply ItLe2.tail0)); done)) ⟨Nat.zero_le _, by omega⟩ ?_
    rintro k ⟨hk, hinv⟩
    try simp only at hk
    refine awp_seq ?_
    refine awp_seq ?_
    refine awp_region ?_
    refine st_p (fun _ => by exact y_move (.plain rfl)) rfl ?_
    refine st_p (fun _ => by exact y_move (.plain rfl)) rfl ?_
    first | refine st_p (fun _ => by exact y_lenN (.plain rfl)) rfl ?_ | refine st_p (fun _ => by exact y_len (.plain rfl)) rfl ?_ | refine st_p (fun _ => by exact y_lenArr (.plain rfl)) rfl ?_ | refine st_p (fun _ => by exact y_strLen (by rfl) (.plain rfl)) rfl ?_
    refine st_p (fun _ => by exact y_lss (.plain rfl) (.plain rfl)) rfl ?_
    refine aops_nil ?_
    refine awp_cond rfl (fun h2 => ?_) (fun h2 => ?_)
    · skip
      try simp only [decide_eq_true_eq, decide_eq_false_iff_not, Bool.not_eq_true', Bool.not_eq_false', Bool.not_eq_true, Bool.not_eq_false, List.length_map, Int.ofNat_lt, Int.ofNat_le, Bool.or_eq_true, Bool.and_eq_true, Bool.or_eq_false_iff, Bool.and_eq_false_iff] at h2
      have hkl : k < (bys b).length := by omega
      refine awp_skip ?_
      refine awp_seq ?_
      refine awp_block ?_
      refine awp_seq ?_
      refine awp_region ?_
      refine st_p (fun _ => by exact y_move (.plain rfl)) rfl ?_
      refine st_p (fun _ => by exact y_move (.plain rfl)) rfl ?_
      refine st_p (fun _ => by exact y_strIndexM (by rfl) (.plain rfl) (.plain rfl) rfl (by refine ⟨?_, ?_⟩; (first | omega | (simp; omega) | (simp at hc; omega) | (simp at hc ⊢; omega) | (simp; done)); rfl)) rfl ?_
      refine st_p (fun _ => by exact y_geq (.plain rfl) (.plain rfl)) rfl ?_
      refine st_p (fun _ => by exact y_move (.plain rfl)) rfl ?_
      refine st_g rfl rfl rfl SaysI.out (fun hc _ => by exact y_move (.plain rfl)) rfl ?_
      refine st_g rfl rfl rfl SaysI.out (fun hc _ => by exact y_move (.plain rfl)) rfl ?_
      refine st_g rfl rfl rfl SaysI.out (fun hc _ => by exact y_strIndexM (by rfl) (.opt rfl hc) (.opt rfl hc) rfl (by refine ⟨?_, ?_⟩; (first | omega | (simp; omega) | (simp at hc; omega) | (simp at hc ⊢; omega) | (simp; done)); rfl)) rfl ?_
      refine st_g rfl rfl rfl SaysI.out (fun hc _ => by exact y_leq (.opt rfl hc) (.plain rfl)) rfl ?_
      refine st_p (fun _ => by exact y_and (.plain rfl) rfl rfl) rfl ?_
      refine st_p (fun _ => by exact y_assign (.plain rfl)) rfl ?_
      refine aops_nil ?_
      refine awp_seq ?_
      refine awp_region ?_
      refine st_p (fun _ => by exact y_move (.plain rfl)) rfl ?_
      refine st_p (fun _ => by exact y_move (.plain rfl)) rfl ?_
      refine st_p (fun _ => by exact y_strIndexM (by rfl) (.plain rfl) (.plain rfl) rfl (by refine ⟨?_, ?_⟩; (first | omega | (simp; omega) | (simp at hc; omega) | (simp at hc ⊢; omega) | (simp; done)); rfl)) rfl ?_
      refine st_p (fun _ => by exact y_geq (.plain rfl) (.plain rfl)) rfl ?_
      refine st_p (fun _ => by exact y_move (.plain rfl)) rfl ?_
      refine st_g rfl rfl rfl SaysI.out (fun hc _ => by exact y_move (.plain rfl)) rfl ?_
      refine st_g rfl rfl rfl SaysI.out (fun hc _ => by exact y_move (.plain rfl)) rfl ?_
      refine st_g rfl rfl rfl SaysI.out (fun hc _ => by exact y_strIndexM (by rfl) (.opt rfl hc) (.opt rfl hc) rfl (by refine ⟨?_, ?_⟩; (first | omega | (simp; omega) | (simp at hc; omega) | (simp at hc ⊢; omega) | (simp; done)); rfl)) rfl ?_
      refine st_g rfl rfl rfl SaysI.out (fun hc _ => by exact y_leq (.opt rfl hc) (.plain rfl)) rfl ?_
      refine st_p (fun _ => by exact y_and (.plain rfl) rfl rfl) rfl ?_
      refine st_p (fun _ => by exact y_move (.plain rfl)) rfl ?_
      refine st_g rfl rfl rfl SaysI.out (fun hc _ => by exact y_move (.plain rfl)) rfl ?_
      refine st_g rfl rfl rfl SaysI.out (fun hc _ => by exact y_move (.plain rfl)) rfl ?_
      refine st_g rfl rfl rfl SaysI.out (fun hc _ => by exact y_strIndexM (by rfl) (.opt rfl hc) (.opt rfl hc) rfl (by refine ⟨?_, ?_⟩; (first | omega | (simp; omega) | (simp at hc; omega) | (simp at hc ⊢; omega) | (simp; done)); rfl)) rfl ?_
      refine st_g rfl rfl rfl SaysI.out (fun hc _ => by exact y_eql (.opt rfl hc) (.plain rfl)) rfl ?_
      refine st_p (fun _ => by exact y_or (.plain rfl) rfl rfl) rfl ?_
      refine st_p (fun _ => by exact y_assign (.plain rfl)) rfl ?_
      refine aops_nil ?_
      refine awp_seq ?_
      refine awp_region ?_
      refine st_p (fun _ => by exact y_move (.plain rfl)) rfl ?_
      refine st_p (fun _ => by exact y_not (.plain rfl)) rfl ?_
      refine st_p (fun _ => by exact y_move (.plain rfl)) rfl ?_
      refine st_g rfl rfl rfl SaysI.out (fun hc _ => by exact y_move (.plain rfl)) rfl ?_
      refine st_g rfl rfl rfl SaysI.out (fun hc _ => by exact y_eql (.opt rfl hc) (.plain rfl)) rfl ?_
      refine st_g rfl rfl rfl SaysI.out (fun hc _ => by exact y_move (.opt rfl hc)) rfl ?_
      refine st_g rfl rfl rfl SaysI.out (fun hc _ => by exact y_move (.plain rfl)) rfl ?_
      refine st_g rfl rfl rfl SaysI.out (fun hc _ => by exact y_not (.opt rfl hc)) rfl ?_
      first | refine st_g rfl rfl rfl SaysI.out (fun hc _ => by exact y_or' hc (.opt rfl hc) rfl rfl) rfl ?_ | refine st_g rfl rfl rfl SaysI.out (fun hc _ => by exact y_or (.opt rfl hc) rfl rfl) rfl ?_
      refine st_p (fun _ => by exact y_and (.plain rfl) rfl rfl) rfl ?_
      refine aops_nil ?_
      refine awp_cond rfl (fun h3 => ?_) (fun h3 => ?_)
      · skip
        try simp only [decide_eq_true_eq, decide_eq_false_iff_not, Bool.not_eq_true', Bool.not_eq_false', Bool.not_eq_true, Bool.not_eq_false, List.length_map, Int.ofNat_lt, Int.ofNat_le, Bool.or_eq_true, Bool.and_eq_true, Bool.or_eq_false_iff, Bool.and_eq_false_iff] at h3
        try simp only [decide_eq_true_eq, decide_eq_false_iff_not] at h3
        have hok : Sv.okAt (bys b) k = false := by
          rw [Sv.okAt_get (by assumption), Bool.eq_false_iff]
          unfold Sv.small Sv.digit
          simp only [ne_eq, Bool.or_eq_true, Bool.and_eq_true, decide_eq_true_eq]
          omega
        refine awp_seq ?_
        refine awp_region ?_
        refine st_p (fun _ => by exact y_assign (.plain rfl)) rfl ?_
        refine aops_nil ?_
        refine awp_ret ?_
        refine retG (.inr rfl) (.cons (.tmp rfl) .nil) (VShift.of1 (AV.Imp.refl _) (.nil _)) ⟨congrArg (fun x : (Bool) => (AV.bool x)) (show _ = (Sv.isName b) from ?_), rfl⟩
        rw [Sv.isName_bad (by assumption) hok]
      · skip
        try simp only [decide_eq_true_eq, decide_eq_false_iff_not, Bool.not_eq_true', Bool.not_eq_false', Bool.not_eq_true, Bool.not_eq_false, List.length_map, Int.ofNat_lt, Int.ofNat_le, Bool.or_eq_true, Bool.and_eq_true, Bool.or_eq_false_iff, Bool.and_eq_false_iff] at h3
        try simp only [decide_eq_true_eq, decide_eq_false_iff_not] at h3
        have hok : Sv.okAt (bys b) k = true := by
          rw [Sv.okAt_get (by assumption)]
          unfold Sv.small Sv.digit
          simp only [Bool.or_eq_true, Bool.and_eq_true, decide_eq_true_eq]
          omega
        refine awp_skip ?_
        refine awp_region ?_
        refine st_p (fun _ => by exact y_move (.plain rfl)) rfl ?_
        refine st_p (fun _ => by exact y_add (.plain rfl) (.plain rfl) (by first | omega | (simp; omega) | (simp at hc; omega) | (simp at hc ⊢; omega) | (simp; done))) rfl ?_
        refine st_p (fun _ => by exact y_assign (.plain rfl)) rfl ?_
        refine aops_nil ?_
        refine ⟨k + 1, ?_, ?_, Weak.of2 (by (repeat (first | exact .nil _ | refine .cons rfl (by first | exact AV.Imp.refl _ | exact Sl.imp | exact AV.Imp.agg RowOf.imp | exact AV.Imp.grow_sl | exact AV.Imp.nil_grow | exact AV.Imp.full_grow | exact AV.Imp.own_grow | exact AV.Imp.grow_of rfl | exact AV.Imp.sl_of rfl | exact AV.Imp.int_of (by omega) | exact AV.Imp.of_eq (by first | omega | simpa)) ?_)); done) (by (repeat (first | exact .refl _ | exact .nil _ | apply ItLe2.cons (by first | exact .here | exact k1 | exact k2 | exact k3 | exact k4 | exact k5 | exact k6 | exact k7 | exact k8 | exact k9 | exact k10 | exact k11 | exact k12 | exact k13) | apply ItLe2.cells (by first | exact .here | exact k1 | exact k2 | exact k3 | exact k4 | exact k5 | exact k6 | exact k7 | exact k8 | exact k9 | exact k10 | exact k11 | exact k12 | exact k13) (by repeat (first | exact .nil | refine .cons (by first | exact AV.Imp.refl _ | exact Sl.imp | exact AV.Imp.agg RowOf.imp | exact AV.Imp.grow_sl | exact AV.Imp.nil_grow | exact AV.Imp.full_grow | exact AV.Imp.own_grow | exact AV.Imp.grow_of rfl | exact AV.Imp.sl_of rfl | exact AV.Imp.int_of (by omega) | exact AV.Imp.of_eq (by first | omega | simpa)) ?_)) | apply ItLe2.tail0)); done)⟩
        · refine ⟨by omega, ?_⟩
          intro i hik
          by_cases e : i = k
          · subst e; exact hok
          · exact hinv i (by omega)
        · omega
    · skip
      try simp only [decide_eq_true_eq, decide_eq_false_iff_not, Bool.not_eq_true', Bool.not_eq_false', Bool.not_eq_true, Bool.not_eq_false, List.length_map, Int.ofNat_lt, Int.ofNat_le, Bool.or_eq_true, Bool.and_eq_true, Bool.or_eq_false_iff, Bool.and_eq_false_iff] at h2
      refine awp_exit ?_
      refine awp_seq ?_
      refine awp_region ?_
      refine st_p (fun _ => by exact y_assign (.plain rfl)) rfl ?_
      refine aops_nil ?_
      refine awp_ret ?_
      refine retG (.inr rfl) (.cons (.tmp rfl) .nil) (VShift.of1 (AV.Imp.refl _) (.nil _)) ⟨congrArg (fun x : (Bool) => (AV.bool x)) (show _ = (Sv.isName b) from ?_), rfl⟩
      rw [Sv.isName_good (fun i hi => hinv i (by omega)), decide_eq_true hsz.1, decide_eq_true hsz.2]
      all_goals rfl

theorem great_c (q : Sv.Spc) (hl : q.children.length ≤ 1000000) (hz : ∀ c ∈ q.children, c.name.size ≤ 1000000) : ACalls Try.prog 9 [(AV.agg (encSp q))] [] (fun v st => v = (AV.bool (Sv.great q)) ∧ st = []) := by
  refine acalls_body Try.func9 (by kernel_rfl) rfl Try.ntmps9 (le_ rfl) ?_
  rw [Try.results9]
  refine awp_seq ?_
  refine awp_region ?_
  refine st_n (fun _ => by exact y_box (.plain rfl)) rfl fun n1 => ?_
  refine st_p (fun _ => by exact y_assign (.plain rfl)) rfl ?_
  refine aops_nil ?_
  refine awp_seq ?_
  refine awp_seq ?_
  refine awp_region ?_
  refine st_p (fun _ => by exact y_fieldPtr (.plain rfl)) rfl ?_
  refine st_p (fun _ => by exact y_load (.plain rfl) (by first | exact .here | exact k1 | exact k2 | exact k3 | exact k4 | exact k5 | exact k6 | exact k7 | exact k8 | exact k9 | exact k10 | exact k11 | exact k12 | exact k13) rfl) rfl ?_
  first | refine st_p (fun _ => by exact y_lenN (.plain rfl)) rfl ?_ | refine st_p (fun _ => by exact y_len (.plain rfl)) rfl ?_ | refine st_p (fun _ => by exact y_lenArr (.plain rfl)) rfl ?_ | refine st_p (fun _ => by exact y_strLen (by rfl) (.plain rfl)) rfl ?_
  refine st_p (fun _ => by exact y_gtr (.plain rfl) (.plain rfl)) rfl ?_
  refine aops_nil ?_
  refine awp_cond rfl (fun h1 => ?_) (fun h1 => ?_)
  · skip
    try simp only [decide_eq_true_eq, decide_eq_false_iff_not, Bool.not_eq_true', Bool.not_eq_false', Bool.not_eq_true, Bool.not_eq_false, List.length_map, Int.ofNat_lt, Int.ofNat_le, Bool.or_eq_true, Bool.and_eq_true, Bool.or_eq_false_iff, Bool.and_eq_false_iff] at h1
    refine awp_seq ?_
    refine awp_region ?_
    refine st_p (fun _ => by exact y_assign (.plain rfl)) rfl ?_
    refine aops_nil ?_
    refine awp_ret ?_
    refine retG (.inr rfl) (.cons (.tmp rfl) .nil) (VShift.of1 (AV.Imp.refl _) (.nil _)) ⟨congrArg (fun x : (Bool) => (AV.bool x)) (show _ = (Sv.great q) from ?_), rfl⟩
    rw [Sv.great, decide_eq_true (by omega)]
    rfl
  · skip
    try simp only [decide_eq_true_eq, decide_eq_false_iff_not, Bool.not_eq_true', Bool.not_eq_false', Bool.not_eq_true, Bool.not_eq_false, List.length_map, Int.ofNat_lt, Int.ofNat_le, Bool.or_eq_true, Bool.and_eq_true, Bool.or_eq_false_iff, Bool.and_eq_false_iff] at h1
    refine awp_skip ?_
    refine awp_seq ?_
    refine awp_seq ?_
    refine awp_region ?_
    refine st_p (fun _ => by exact y_assign (.plain rfl)) rfl ?_
    refine aops_nil ?_
    refine awp_block ?_
    refine awp_loop2 (X := Nat) [1] (.cons rfl .nil) (fun σ x => ((3, .int (x : Int)) : Nat × AV) :: σ) (fun R x => .cells n1 (encSp q) :: R) (fun x => x ≤ q.children.length ∧ ∀ i (h : i < q.children.length), i < x → q.children[i].name.size ≤ 40) (fun x => q.children.length - x) 0 (by exact Weak.of2 (by (repeat (first | exact .nil _ | refine .cons rfl (by first | exact AV.Imp.refl _ | exact Sl.imp | exact AV.Imp.agg RowOf.imp | exact AV.Imp.grow_sl | exact AV.Imp.nil_grow | exact AV.Imp.full_grow | exact AV.Imp.own_grow | exact AV.Imp.grow_of rfl | exact AV.Imp.sl_of rfl | exact AV.Imp.int_of (by omega) | exact AV.Imp.of_eq (by first | omega | simpa)) ?_)); done) (by (repeat (first | exact .refl _ | exact .nil _ | apply ItLe2.cons (by first | exact .here | exact k1 | exact k2 | exact k3 | exact k4 | exact k5 | exact k6 | exact k7 | exact k8 | exact k9 | exact k10 | exact k11 | exact k12 | exact k13) | apply ItLe2.cells (by first | exact .here | exact k1 | exact k2 | exact k3 | exact k4 | exact k5 | exact k6 | exact k7 | exact k8 | exact k9 | exact k10 | exact k11 | exact k12 | exact k13) (by repeat (first | exact .nil | refine .cons (by first | exact AV.Imp.refl _ | exact Sl.imp | exact AV.Imp.agg RowOf.imp | exact AV.Imp.grow_sl | exact AV.Imp.nil_grow | exact AV.Imp.full_grow | exact AV.Imp.own_grow | exact AV.Imp.grow_of rfl | exact AV.Imp.sl_of rfl | exact AV.Imp.int_of (by omega) | exact AV.Imp.of_eq (by first | omega | simpa)) ?_)) | apply ItLe2.tail0)); done)) ⟨Nat.zero_le _, by omega⟩ ?_
    rintro k ⟨hk, hinv⟩
    refine awp_seq ?_
    refine awp_seq ?_
    refine awp_region ?_
    refine st_p (fun _ => by exact y_move (.plain rfl)) rfl ?_
    refine st_p (fun _ => by exact y_fieldPtr (.plain rfl)) rfl ?_
    refine st_p (fun _ => by exact y_load (.plain rfl) (by first | exact .here | exact k1 | exact k2 | exact k3 | exact k4 | exact k5 | exact k6 | exact k7 | exact k8 | exact k9 | exact k10 | exact k11 | exact k12 | exact k13) rfl) rfl ?_
    first | refine st_p (fun _ => by exact y_lenN (.plain rfl)) rfl ?_ | refine st_p (fun _ => by exact y_len (.plain rfl)) rfl ?_ | refine st_p (fun _ => by exact y_lenArr (.plain rfl)) rfl ?_ | refine st_p (fun _ => by exact y_strLen (by rfl) (.plain rfl)) rfl ?_
    refine st_p (fun _ => by exact y_lss (.plain rfl) (.plain rfl)) rfl ?_
    refine aops_nil ?_
    refine awp_cond rfl (fun h2 => ?_) (fun h2 => ?_)
    · skip
      try simp only [decide_eq_true_eq, decide_eq_false_iff_not, Bool.not_eq_true', Bool.not_eq_false', Bool.not_eq_true, Bool.not_eq_false, List.length_map, Int.ofNat_lt, Int.ofNat_le, Bool.or_eq_true, Bool.and_eq_true, Bool.or_eq_false_iff, Bool.and_eq_false_iff] at h2
      refine awp_skip ?_
      refine awp_seq ?_
      refine awp_block ?_
      refine awp_seq ?_
      refine awp_region ?_
      refine st_p (fun _ => by exact y_fieldPtr (.plain rfl)) rfl ?_
      refine st_p (fun _ => by exact y_load (.plain rfl) (by first | exact .here | exact k1 | exact k2 | exact k3 | exact k4 | exact k5 | exact k6 | exact k7 | exact k8 | exact k9 | exact k10 | exact k11 | exact k12 | exact k13) rfl) rfl ?_
      refine st_p (fun _ => by exact y_move (.plain rfl)) rfl ?_
      first | refine st_p (fun _ => by exact y_indexMap (.plain rfl) (.plain rfl) rfl (by refine ⟨?_, ?_⟩; (first | omega | (simp; omega) | (simp at hc; omega) | (simp at hc ⊢; omega) | (simp; done)); rfl)) rfl ?_ | refine st_p (fun _ => by exact y_indexT (.plain rfl) (.plain rfl) (by first | omega | (simp; omega) | (simp at hc; omega) | (simp at hc ⊢; omega) | (simp; done)) (by first | omega | (simp; omega) | (simp at hc; omega) | (simp at hc ⊢; omega) | (simp; done))) rfl ?_ | refine st_p (fun _ => by exact y_index (.plain rfl) (.plain rfl) (by omega) rfl) rfl ?_ | refine st_p (fun _ => by exact y_indexArr (.plain rfl) (.plain rfl) rfl (by first | omega | (simp; omega) | (simp at hc; omega) | (simp at hc ⊢; omega) | (simp; done))) rfl ?_
      refine st_p (fun _ => by exact y_fieldE (.plain rfl) (le_ rfl)) rfl ?_
      refine st_p (fun _ => by exact y_loadE (.plain rfl) rfl) rfl ?_
      first | refine st_p (fun _ => by exact y_lenN (.plain rfl)) rfl ?_ | refine st_p (fun _ => by exact y_len (.plain rfl)) rfl ?_ | refine st_p (fun _ => by exact y_lenArr (.plain rfl)) rfl ?_ | refine st_p (fun _ => by exact y_strLen (by rfl) (.plain rfl)) rfl ?_
      refine st_p (fun _ => by exact y_gtr (.plain rfl) (.plain rfl)) rfl ?_
      refine aops_nil ?_
      refine awp_cond rfl (fun h3 => ?_) (fun h3 => ?_)
      · skip
        try simp only [decide_eq_true_eq, decide_eq_false_iff_not, Bool.not_eq_true', Bool.not_eq_false', Bool.not_eq_true, Bool.not_eq_false, List.length_map, Int.ofNat_lt, Int.ofNat_le, Bool.or_eq_true, Bool.and_eq_true, Bool.or_eq_false_iff, Bool.and_eq_false_iff] at h3
        refine awp_seq ?_
        refine awp_region ?_
        refine st_p (fun _ => by exact y_assign (.plain rfl)) rfl ?_
        refine aops_nil ?_
        refine awp_ret ?_
        refine retG (.inr rfl) (.cons (.tmp rfl) .nil) (VShift.of1 (AV.Imp.refl _) (.nil _)) ⟨congrArg (fun x : (Bool) => (AV.bool x)) (show _ = (Sv.great q) from ?_), rfl⟩
        rw [Sv.great, List.any_eq_true.2 ⟨_, List.getElem_mem (by assumption : k < q.children.length), decide_eq_true (by omega)⟩, Bool.or_true]
      · skip
        try simp only [decide_eq_true_eq, decide_eq_false_iff_not, Bool.not_eq_true', Bool.not_eq_false', Bool.not_eq_true, Bool.not_eq_false, List.length_map, Int.ofNat_lt, Int.ofNat_le, Bool.or_eq_true, Bool.and_eq_true, Bool.or_eq_false_iff, Bool.and_eq_false_iff] at h3
        refine awp_skip ?_
        refine awp_region ?_
        refine st_p (fun _ => by exact y_move (.plain rfl)) rfl ?_
        refine st_p (fun _ => by exact y_add (.plain rfl) (.plain rfl) (by first | omega | (simp; omega) | (simp at hc; omega) | (simp at hc ⊢; omega) | (simp; done))) rfl ?_
        refine st_p (fun _ => by exact y_assign (.plain rfl)) rfl ?_
        refine aops_nil ?_
        refine ⟨k + 1, ⟨by omega, fun i hi hik => ?_⟩, by omega, ?_⟩
        · by_cases e : i = k
          · subst e; omega
          · exact hinv i hi (by omega)
        · exact Weak.of2 (by (repeat (first | exact .nil _ | refine .cons rfl (by first | exact AV.Imp.refl _ | exact Sl.imp | exact AV.Imp.agg RowOf.imp | exact AV.Imp.grow_sl | exact AV.Imp.nil_grow | exact AV.Imp.full_grow | exact AV.Imp.own_grow | exact AV.Imp.grow_of rfl | exact AV.Imp.sl_of rfl | exact AV.Imp.int_of (by omega) | exact AV.Imp.of_eq (by first | omega | simpa)) ?_)); done) (by (repeat (first | exact .refl _ | exact .nil _ | apply ItLe2.cons (by first | exact .here | exact k1 | exact k2 | exact k3 | exact k4 | exact k5 | exact k6 | exact k7 | exact k8 | exact k9 | exact k10 | exact k11 | exact k12 | exact k13) | apply ItLe2.cells (by first | exact .here | exact k1 | exact k2 | exact k3 | exact k4 | exact k5 | exact k6 | exact k7 | exact k8 | exact k9 | exact k10 | exact k11 | exact k12 | exact k13) (by repeat (first | exact .nil | refine .cons (by first | exact AV.Imp.refl _ | exact Sl.imp | exact AV.Imp.agg RowOf.imp | exact AV.Imp.grow_sl | exact AV.Imp.nil_grow | exact AV.Imp.full_grow | exact AV.Imp.own_grow | exact AV.Imp.grow_of rfl | exact AV.Imp.sl_of rfl | exact AV.Imp.int_of (by omega) | exact AV.Imp.of_eq (by first | omega | simpa)) ?_)) | apply ItLe2.tail0)); done)
    · skip
      try simp only [decide_eq_true_eq, decide_eq_false_iff_not, Bool.not_eq_true', Bool.not_eq_false', Bool.not_eq_true, Bool.not_eq_false, List.length_map, Int.ofNat_lt, Int.ofNat_le, Bool.or_eq_true, Bool.and_eq_true, Bool.or_eq_false_iff, Bool.and_eq_false_iff] at h2
      refine awp_exit ?_
      refine awp_seq ?_
      refine awp_region ?_
      refine st_p (fun _ => by exact y_assign (.plain rfl)) rfl ?_
      refine aops_nil ?_
      refine awp_ret ?_
      refine retG (.inr rfl) (.cons (.tmp rfl) .nil) (VShift.of1 (AV.Imp.refl _) (.nil _)) ⟨congrArg (fun x : (Bool) => (AV.bool x)) (show _ = (Sv.great q) from ?_), rfl⟩
      rw [Sv.great, decide_eq_false (by omega), List.any_eq_false.2 (fun c hc => by
        obtain ⟨i, hi, rfl⟩ := List.getElem_of_mem hc
        have := hinv i hi (by omega)
        simp; omega)]
      rfl

theorem checkR_c (q : Sv.Spc) (hl : q.children.length ≤ 1000000) (hz : ∀ c ∈ q.children, c.name.size ≤ 1000000) : ACalls Try.prog 10 [(AV.agg (encSp q))] [] (fun v st => v = (AV.int (Sv.chk q)) ∧ st = []) := by
  refine acalls_body Try.func10 (by kernel_rfl) rfl Try.ntmps10 (le_ rfl) ?_
  rw [Try.results10]
  refine awp_seq ?_
  refine awp_region ?_
  refine st_n (fun _ => by exact y_box (.plain rfl)) rfl fun n1 => ?_
  refine st_p (fun _ => by exact y_assign (.plain rfl)) rfl ?_
  refine aops_nil ?_
  refine awp_seq ?_
  refine awp_seq ?_
  refine awp_region ?_
  refine st_p (fun _ => by exact y_fieldPtr (.plain rfl)) rfl ?_
  refine st_p (fun _ => by exact y_load (.plain rfl) (by first | exact .here | exact k1 | exact k2 | exact k3 | exact k4 | exact k5 | exact k6 | exact k7 | exact k8 | exact k9 | exact k10 | exact k11 | exact k12 | exact k13) rfl) rfl ?_
  refine aops_call (blt_lt rfl) (.plain rfl) (.cons (.plain rfl) (.cons (.plain rfl) (.cons (.plain rfl) .nil))) (ACalls.here (between_c _ _ _) ?_)
  refine st_p (fun _ => by exact y_not (.plain rfl)) rfl ?_
  refine aops_nil ?_
  refine awp_cond rfl (fun h1 => ?_) (fun h1 => ?_)
  · skip
    try simp only [decide_eq_true_eq, decide_eq_false_iff_not, Bool.not_eq_true', Bool.not_eq_false', Bool.not_eq_true, Bool.not_eq_false, List.length_map, Int.ofNat_lt, Int.ofNat_le, Bool.or_eq_true, Bool.and_eq_true, Bool.or_eq_false_iff, Bool.and_eq_false_iff] at h1
    have w1 : Sv.win q.strategy 1 3 = false := by simpa using h1
    refine awp_seq ?_
    refine awp_region ?_
    refine st_p (fun _ => by exact y_assign (.plain rfl)) rfl ?_
    refine aops_nil ?_
    refine awp_ret ?_
    refine retG (.inr rfl) (.cons (.tmp rfl) .nil) (VShift.of1 (AV.Imp.refl _) (.nil _)) ⟨congrArg (fun x : (Int) => (AV.int x)) (show _ = (Sv.chk q) from ?_), rfl⟩
    rw [Sv.chk, if_pos w1]
  · skip
    try simp only [decide_eq_true_eq, decide_eq_false_iff_not, Bool.not_eq_true', Bool.not_eq_false', Bool.not_eq_true, Bool.not_eq_false, List.length_map, Int.ofNat_lt, Int.ofNat_le, Bool.or_eq_true, Bool.and_eq_true, Bool.or_eq_false_iff, Bool.and_eq_false_iff] at h1
    have w1 : Sv.win q.strategy 1 3 = true := by simpa using h1
    refine awp_skip ?_
    refine awp_seq ?_
    refine awp_seq ?_
    refine awp_region ?_
    refine st_p (fun _ => by exact y_fieldPtr (.plain rfl)) rfl ?_
    refine st_p (fun _ => by exact y_load (.plain rfl) (by first | exact .here | exact k1 | exact k2 | exact k3 | exact k4 | exact k5 | exact k6 | exact k7 | exact k8 | exact k9 | exact k10 | exact k11 | exact k12 | exact k13) rfl) rfl ?_
    refine aops_call (blt_lt rfl) (.plain rfl) (.cons (.plain rfl) (.cons (.plain rfl) (.cons (.plain rfl) .nil))) (ACalls.here (between_c _ _ _) ?_)
    refine st_p (fun _ => by exact y_not (.plain rfl)) rfl ?_
    refine st_p (fun _ => by exact y_move (.plain rfl)) rfl ?_
    refine st_g rfl rfl rfl SaysI.out (fun hc _ => by exact y_fieldPtr (.plain rfl)) rfl ?_
    refine st_g rfl rfl rfl SaysI.out (fun hc _ => by exact y_load (.opt rfl hc) (by first | exact .here | exact k1 | exact k2 | exact k3 | exact k4 | exact k5 | exact k6 | exact k7 | exact k8 | exact k9 | exact k10 | exact k11 | exact k12 | exact k13) rfl) rfl ?_
    refine st_g rfl rfl rfl SaysI.out (fun hc _ => by exact y_call (.plain rfl) (.cons (.opt rfl hc) (.cons (.plain rfl) (.cons (.plain rfl) .nil))) (ACalls.pure (between_c _ _ _))) rfl ?_
    refine st_g rfl rfl rfl SaysI.out (fun hc _ => by exact y_not (.opt rfl hc)) rfl ?_
    refine st_p (fun _ => by exact y_or (.plain rfl) rfl rfl) rfl ?_
    refine aops_nil ?_
    refine awp_cond rfl (fun h2 => ?_) (fun h2 => ?_)
    · skip
      try simp only [decide_eq_true_eq, decide_eq_false_iff_not, Bool.not_eq_true', Bool.not_eq_false', Bool.not_eq_true, Bool.not_eq_false, List.length_map, Int.ofNat_lt, Int.ofNat_le, Bool.or_eq_true, Bool.and_eq_true, Bool.or_eq_false_iff, Bool.and_eq_false_iff] at h2
      have w2 : (Sv.win q.intensity 0 100 && Sv.win q.window 1 1099511627776) = false := by
        rw [Bool.and_eq_false_iff]
        simpa using h2
      refine awp_seq ?_
      refine awp_region ?_
      refine st_p (fun _ => by exact y_assign (.plain rfl)) rfl ?_
      refine aops_nil ?_
      refine awp_ret ?_
      refine retG (.inr rfl) (.cons (.tmp rfl) .nil) (VShift.of1 (AV.Imp.refl _) (.nil _)) ⟨congrArg (fun x : (Int) => (AV.int x)) (show _ = (Sv.chk q) from ?_), rfl⟩
      rw [Sv.chk, if_neg (by simp [w1]), if_pos w2]
    · skip
      try simp only [decide_eq_true_eq, decide_eq_false_iff_not, Bool.not_eq_true', Bool.not_eq_false', Bool.not_eq_true, Bool.not_eq_false, List.length_map, Int.ofNat_lt, Int.ofNat_le, Bool.or_eq_true, Bool.and_eq_true, Bool.or_eq_false_iff, Bool.and_eq_false_iff] at h2
      have w2 : (Sv.win q.intensity 0 100 && Sv.win q.window 1 1099511627776) = true := by simpa using h2
      refine awp_skip ?_
      refine awp_seq ?_
      refine awp_seq ?_
      refine awp_region ?_
      refine st_p (fun _ => by exact y_fieldPtr (.plain rfl)) rfl ?_
      refine st_p (fun _ => by exact y_load (.plain rfl) (by first | exact .here | exact k1 | exact k2 | exact k3 | exact k4 | exact k5 | exact k6 | exact k7 | exact k8 | exact k9 | exact k10 | exact k11 | exact k12 | exact k13) rfl) rfl ?_
      first | refine st_p (fun _ => by exact y_lenN (.plain rfl)) rfl ?_ | refine st_p (fun _ => by exact y_len (.plain rfl)) rfl ?_ | refine st_p (fun _ => by exact y_lenArr (.plain rfl)) rfl ?_ | refine st_p (fun _ => by exact y_strLen (by rfl) (.plain rfl)) rfl ?_
      refine aops_call (blt_lt rfl) (.plain rfl) (.cons (.plain rfl) (.cons (.plain rfl) (.cons (.plain rfl) .nil))) (ACalls.here (between_c _ _ _) ?_)
      refine st_p (fun _ => by exact y_not (.plain rfl)) rfl ?_
      refine aops_nil ?_
      refine awp_cond rfl (fun h3 => ?_) (fun h3 => ?_)
      · skip
        try simp only [decide_eq_true_eq, decide_eq_false_iff_not, Bool.not_eq_true', Bool.not_eq_false', Bool.not_eq_true, Bool.not_eq_false, List.length_map, Int.ofNat_lt, Int.ofNat_le, Bool.or_eq_true, Bool.and_eq_true, Bool.or_eq_false_iff, Bool.and_eq_false_iff] at h3
        have w3 : Sv.win q.children.length 1 16 = false := by simpa using h3
        refine awp_seq ?_
        refine awp_region ?_
        refine st_p (fun _ => by exact y_assign (.plain rfl)) rfl ?_
        refine aops_nil ?_
        refine awp_ret ?_
        refine retG (.inr rfl) (.cons (.tmp rfl) .nil) (VShift.of1 (AV.Imp.refl _) (.nil _)) ⟨congrArg (fun x : (Int) => (AV.int x)) (show _ = (Sv.chk q) from ?_), rfl⟩
        rw [Sv.chk, if_neg (by simp [w1]), if_neg (by simp [w2]), if_pos w3]
      · skip
        try simp only [decide_eq_true_eq, decide_eq_false_iff_not, Bool.not_eq_true', Bool.not_eq_false', Bool.not_eq_true, Bool.not_eq_false, List.length_map, Int.ofNat_lt, Int.ofNat_le, Bool.or_eq_true, Bool.and_eq_true, Bool.or_eq_false_iff, Bool.and_eq_false_iff] at h3
        have w3 : Sv.win q.children.length 1 16 = true := by simpa using h3
        have hck : Sv.chk q = Sv.chkC q.children ((List.range q.children.length).drop 0) := by rw [Sv.chk, if_neg (by simp [w1]), if_neg (by simp [w2]), if_neg (by simp [w3])]; rfl
        refine awp_skip ?_
        refine awp_seq ?_
        refine awp_seq ?_
        refine awp_region ?_
        refine st_p (fun _ => by exact y_assign (.plain rfl)) rfl ?_
        refine aops_nil ?_
        refine awp_block ?_
        refine awp_loop2 (X := Nat) [1] (.cons rfl .nil) (fun σ x => ((3, .int (x : Int)) : Nat × AV) :: σ) (fun R x => .cells n1 (encSp q) :: R) (fun x => x ≤ q.children.length ∧ (Sv.chkC q.children ((List.range q.children.length).drop 0)) = (Sv.chkC q.children ((List.range q.children.length).drop x))) (fun x => q.children.length - x) 0 (by exact Weak.of2 (by (repeat (first | exact .nil _ | refine .cons rfl (by first | exact AV.Imp.refl _ | exact Sl.imp | exact AV.Imp.agg RowOf.imp | exact AV.Imp.grow_sl | exact AV.Imp.nil_grow | exact AV.Imp.full_grow | exact AV.Imp.own_grow | exact AV.Imp.grow_of rfl | exact AV.Imp.sl_of rfl | exact AV.Imp.int_of (by omega) | exact AV.Imp.of_eq (by first | omega | simpa)) ?_)); done) (by (repeat (first | exact .refl _ | exact .nil _ | apply ItLe2.cons (by first | exact .here | exact k1 | exact k2 | exact k3 | exact k4 | exact k5 | exact k6 | exact k7 | exact k8 | exact k9 | exact k10 | exact k11 | exact k12 | exact k13) | apply ItLe2.cells (by first | exact .here | exact k1 | exact k2 | exact k3 | exact k4 | exact k5 | exact k6 | exact k7 | exact k8 | exact k9 | exact k10 | exact k11 | exact k12 | exact k13) (by repeat (first | exact .nil | refine .cons (by first | exact AV.Imp.refl _ | exact Sl.imp | exact AV.Imp.agg RowOf.imp | exact AV.Imp.grow_sl | exact AV.Imp.nil_grow | exact AV.Imp.full_grow | exact AV.Imp.own_grow | exact AV.Imp.grow_of rfl | exact AV.Imp.sl_of rfl | exact AV.Imp.int_of (by omega) | exact AV.Imp.of_eq (by first | omega | simpa)) ?_)) | apply ItLe2.tail0)); done)) ⟨Nat.zero_le _, rfl⟩ ?_
        rintro k ⟨hk, hinv⟩
        refine awp_seq ?_
        refine awp_seq ?_
        refine awp_region ?_
        refine st_p (fun _ => by exact y_move (.plain rfl)) rfl ?_
        refine st_p (fun _ => by exact y_fieldPtr (.plain rfl)) rfl ?_
        refine st_p (fun _ => by exact y_load (.plain rfl) (by first | exact .here | exact k1 | exact k2 | exact k3 | exact k4 | exact k5 | exact k6 | exact k7 | exact k8 | exact k9 | exact k10 | exact k11 | exact k12 | exact k13) rfl) rfl ?_
        first | refine st_p (fun _ => by exact y_lenN (.plain rfl)) rfl ?_ | refine st_p (fun _ => by exact y_len (.plain rfl)) rfl ?_ | refine st_p (fun _ => by exact y_lenArr (.plain rfl)) rfl ?_ | refine st_p (fun _ => by exact y_strLen (by rfl) (.plain rfl)) rfl ?_
        refine st_p (fun _ => by exact y_lss (.plain rfl) (.plain rfl)) rfl ?_
        refine aops_nil ?_
        refine awp_cond rfl (fun h4 => ?_) (fun h4 => ?_)
        · skip
          try simp only [decide_eq_true_eq, decide_eq_false_iff_not, Bool.not_eq_true', Bool.not_eq_false', Bool.not_eq_true, Bool.not_eq_false, List.length_map, Int.ofNat_lt, Int.ofNat_le, Bool.or_eq_true, Bool.and_eq_true, Bool.or_eq_false_iff, Bool.and_eq_false_iff] at h4
          have hkq : k < q.children.length := by omega
          refine awp_skip ?_
          refine awp_seq ?_
          refine awp_block ?_
          refine awp_seq ?_
          refine awp_region ?_
          refine st_p (fun _ => by exact y_fieldPtr (.plain rfl)) rfl ?_
          refine st_p (fun _ => by exact y_load (.plain rfl) (by first | exact .here | exact k1 | exact k2 | exact k3 | exact k4 | exact k5 | exact k6 | exact k7 | exact k8 | exact k9 | exact k10 | exact k11 | exact k12 | exact k13) rfl) rfl ?_
          refine st_p (fun _ => by exact y_move (.plain rfl)) rfl ?_
          first | refine st_p (fun _ => by exact y_indexMap (.plain rfl) (.plain rfl) rfl (by refine ⟨?_, ?_⟩; (first | omega | (simp; omega) | (simp at hc; omega) | (simp at hc ⊢; omega) | (simp; done)); rfl)) rfl ?_ | refine st_p (fun _ => by exact y_indexT (.plain rfl) (.plain rfl) (by first | omega | (simp; omega) | (simp at hc; omega) | (simp at hc ⊢; omega) | (simp; done)) (by first | omega | (simp; omega) | (simp at hc; omega) | (simp at hc ⊢; omega) | (simp; done))) rfl ?_ | refine st_p (fun _ => by exact y_index (.plain rfl) (.plain rfl) (by omega) rfl) rfl ?_ | refine st_p (fun _ => by exact y_indexArr (.plain rfl) (.plain rfl) rfl (by first | omega | (simp; omega) | (simp at hc; omega) | (simp at hc ⊢; omega) | (simp; done))) rfl ?_
          first | refine st_p (fun _ => by exact y_loadEW (.plain rfl) (by rfl)) rfl ?_ | refine st_p (fun _ => by exact y_loadEAggN (cs' := [_, _, _]) (.plain rfl) (le_ rfl) rfl) rfl ?_
          refine st_n (fun _ => by exact y_alloc) rfl fun n4 => ?_
          refine st_s (fun _ => by exact y_storeW (by rfl) rfl (.plain rfl) (.plain rfl) (by first | exact .here | exact u1 | exact u2 | exact u3 | exact u4 | exact u5 | exact u6 | exact u7 | exact u8 | exact u9 | exact u10 | exact u11 | exact u12 | exact u13) (by rfl)) ?_
          refine aops_nil ?_
          refine awp_seq ?_
          refine awp_seq ?_
          refine awp_region ?_
          refine st_p (fun _ => by exact y_fieldPtr (.plain rfl)) rfl ?_
          refine st_p (fun _ => by exact y_load (.plain rfl) (by first | exact .here | exact k1 | exact k2 | exact k3 | exact k4 | exact k5 | exact k6 | exact k7 | exact k8 | exact k9 | exact k10 | exact k11 | exact k12 | exact k13) rfl) rfl ?_
          refine aops_call (blt_lt rfl) (.plain rfl) (.cons (.plain rfl) .nil) (ACalls.here (IsName_c _ (hz _ (List.getElem_mem (by assumption)))) ?_)
          refine st_p (fun _ => by exact y_not (.plain rfl)) rfl ?_
          refine aops_nil ?_
          refine awp_cond rfl (fun h5 => ?_) (fun h5 => ?_)
          · skip
            try simp only [decide_eq_true_eq, decide_eq_false_iff_not, Bool.not_eq_true', Bool.not_eq_false', Bool.not_eq_true, Bool.not_eq_false, List.length_map, Int.ofNat_lt, Int.ofNat_le, Bool.or_eq_true, Bool.and_eq_true, Bool.or_eq_false_iff, Bool.and_eq_false_iff] at h5
            have hnm : Sv.isName q.children[k].name = false := by simpa using h5
            refine awp_seq ?_
            refine awp_region ?_
            refine st_p (fun _ => by exact y_assign (.plain rfl)) rfl ?_
            refine aops_nil ?_
            refine awp_ret ?_
            refine retG (.inr rfl) (.cons (.tmp rfl) .nil) (VShift.of1 (AV.Imp.refl _) (.nil _)) ⟨congrArg (fun x : (Int) => (AV.int x)) (show _ = (Sv.chk q) from ?_), rfl⟩
            rw [hck, hinv, Sv.chkC_err q.children hkq (e := 5) (by rw [Sv.errC, if_pos hnm]) (by decide)]
          · skip
            try simp only [decide_eq_true_eq, decide_eq_false_iff_not, Bool.not_eq_true', Bool.not_eq_false', Bool.not_eq_true, Bool.not_eq_false, List.length_map, Int.ofNat_lt, Int.ofNat_le, Bool.or_eq_true, Bool.and_eq_true, Bool.or_eq_false_iff, Bool.and_eq_false_iff] at h5
            have hnm : Sv.isName q.children[k].name = true := by simpa using h5
            refine awp_skip ?_
            refine awp_seq ?_
            refine awp_seq ?_
            refine awp_region ?_
            refine st_p (fun _ => by exact y_assign (.plain rfl)) rfl ?_
            refine aops_nil ?_
            refine awp_block ?_
            refine awp_loop2 (X := Nat) [1, 3, 4] (.cons rfl (.cons rfl (.cons rfl .nil))) (fun σ x => ((5, .int (x : Int)) : Nat × AV) :: σ) (fun R x => .cells n4 (encCh q.children[k]) :: .cells n1 (encSp q) :: R) (fun x => x ≤ k ∧ ∀ i (h : i < q.children.length), i < x → Sv.same q.children[i].name q.children[k].name = false) (fun x => k - x) 0 (by exact Weak.of2 (by (repeat (first | exact .nil _ | refine .cons rfl (by first | exact AV.Imp.refl _ | exact Sl.imp | exact AV.Imp.agg RowOf.imp | exact AV.Imp.grow_sl | exact AV.Imp.nil_grow | exact AV.Imp.full_grow | exact AV.Imp.own_grow | exact AV.Imp.grow_of rfl | exact AV.Imp.sl_of rfl | exact AV.Imp.int_of (by omega) | exact AV.Imp.of_eq (by first | omega | simpa)) ?_)); done) (by (repeat (first | exact .refl _ | exact .nil _ | apply ItLe2.cons (by first | exact .here | exact k1 | exact k2 | exact k3 | exact k4 | exact k5 | exact k6 | exact k7 | exact k8 | exact k9 | exact k10 | exact k11 | exact k12 | exact k13) | apply ItLe2.cells (by first | exact .here | exact k1 | exact k2 | exact k3 | exact k4 | exact k5 | exact k6 | exact k7 | exact k8 | exact k9 | exact k10 | exact k11 | exact k12 | exact k13) (by repeat (first | exact .nil | refine .cons (by first | exact AV.Imp.refl _ | exact Sl.imp | exact AV.Imp.agg RowOf.imp | exact AV.Imp.grow_sl | exact AV.Imp.nil_grow | exact AV.Imp.full_grow | exact AV.Imp.own_grow | exact AV.Imp.grow_of rfl | exact AV.Imp.sl_of rfl | exact AV.Imp.int_of (by omega) | exact AV.Imp.of_eq (by first | omega | simpa)) ?_)) | apply ItLe2.tail0)); done)) ⟨Nat.zero_le _, by omega⟩ ?_
            rintro j ⟨hj, hsm⟩
            refine awp_seq ?_
            refine awp_seq ?_
            refine awp_region ?_
            refine st_p (fun _ => by exact y_move (.plain rfl)) rfl ?_
            refine st_p (fun _ => by exact y_move (.plain rfl)) rfl ?_
            refine st_p (fun _ => by exact y_lss (.plain rfl) (.plain rfl)) rfl ?_
            refine aops_nil ?_
            refine awp_cond rfl (fun h6 => ?_) (fun h6 => ?_)
            · skip
              try simp only [decide_eq_true_eq, decide_eq_false_iff_not, Bool.not_eq_true', Bool.not_eq_false', Bool.not_eq_true, Bool.not_eq_false, List.length_map, Int.ofNat_lt, Int.ofNat_le, Bool.or_eq_true, Bool.and_eq_true, Bool.or_eq_false_iff, Bool.and_eq_false_iff] at h6
              refine awp_skip ?_
              refine awp_seq ?_
              refine awp_block ?_
              refine awp_seq ?_
              refine awp_any0 (ks := [.free, .free, .free, .free, .free, .free, .free, .free, .free]) (by kernel_rfl) (fun K => ?_) ?_
              · skip
                refine dr_p (fun _ => by exact y_fieldPtr (.plain rfl)) rfl ?_
                refine dr_p (fun _ => by exact y_load (.plain rfl) (by first | exact .here | exact k1 | exact k2 | exact k3 | exact k4 | exact k5 | exact k6 | exact k7 | exact k8 | exact k9 | exact k10 | exact k11 | exact k12 | exact k13) rfl) rfl ?_
                refine dr_p (fun _ => by exact y_move (.plain rfl)) rfl ?_
                first | refine dr_p (fun _ => by exact y_indexMap (.plain rfl) (.plain rfl) rfl (by refine ⟨?_, ?_⟩; (first | omega | (simp; omega) | (simp at hc; omega) | (simp at hc ⊢; omega) | (simp; done)); rfl)) rfl ?_ | refine dr_p (fun _ => by exact y_indexT (.plain rfl) (.plain rfl) (by first | omega | (simp; omega) | (simp at hc; omega) | (simp at hc ⊢; omega) | (simp; done)) (by first | omega | (simp; omega) | (simp at hc; omega) | (simp at hc ⊢; omega) | (simp; done))) rfl ?_ | refine dr_p (fun _ => by exact y_index (.plain rfl) (.plain rfl) (by omega) rfl) rfl ?_ | refine dr_p (fun _ => by exact y_indexArr (.plain rfl) (.plain rfl) rfl (by first | omega | (simp; omega) | (simp at hc; omega) | (simp at hc ⊢; omega) | (simp; done))) rfl ?_
                refine dr_p (fun _ => by exact y_fieldE (.plain rfl) (le_ rfl)) rfl ?_
                refine dr_p (fun _ => by exact y_loadE (.plain rfl) rfl) rfl ?_
                refine dr_p (fun _ => by exact y_fieldPtr (.plain rfl)) rfl ?_
                refine dr_p (fun _ => by exact y_load (.plain rfl) (by first | exact .here | exact k1 | exact k2 | exact k3 | exact k4 | exact k5 | exact k6 | exact k7 | exact k8 | exact k9 | exact k10 | exact k11 | exact k12 | exact k13) rfl) rfl ?_
                refine dr_p (fun _ => by exact y_strEq (.plain rfl) (.plain rfl)) rfl ?_
                refine dr_nil ⟨rfl, ?_⟩
                refine awp_cond rfl (fun h7 => ?_) (fun h7 => ?_)
                · skip
                  try simp only [decide_eq_true_eq, decide_eq_false_iff_not, Bool.not_eq_true', Bool.not_eq_false', Bool.not_eq_true, Bool.not_eq_false, List.length_map, Int.ofNat_lt, Int.ofNat_le, Bool.or_eq_true, Bool.and_eq_true, Bool.or_eq_false_iff, Bool.and_eq_false_iff] at h7
                  have heq : Sv.same q.children[j].name q.children[k].name = true := h7
                  refine awp_seq ?_
                  refine awp_region ?_
                  refine st_p (fun _ => by exact y_assign (.plain rfl)) rfl ?_
                  refine aops_nil ?_
                  refine awp_ret ?_
                  refine retG (.inr rfl) (.cons (.tmp rfl) .nil) (VShift.of1 (AV.Imp.refl _) (.nil _)) ⟨congrArg (fun x : (Int) => (AV.int x)) (show _ = (Sv.chk q) from ?_), rfl⟩
                  rw [hck, hinv, Sv.chkC_err q.children hkq (e := 6) (by rw [Sv.errC, if_neg (by simp [hnm]), if_pos (List.any_eq_true.2 ⟨q.children[j], List.mem_take_iff_getElem.2 ⟨j, by omega, rfl⟩, heq⟩)]) (by decide)]
                · skip
                  try simp only [decide_eq_true_eq, decide_eq_false_iff_not, Bool.not_eq_true', Bool.not_eq_false', Bool.not_eq_true, Bool.not_eq_false, List.length_map, Int.ofNat_lt, Int.ofNat_le, Bool.or_eq_true, Bool.and_eq_true, Bool.or_eq_false_iff, Bool.and_eq_false_iff] at h7
                  have hne : Sv.same q.children[j].name q.children[k].name = false := h7
                  refine awp_skip ?_
                  refine awp_region ?_
                  refine st_p (fun _ => by exact y_move (.plain rfl)) rfl ?_
                  refine st_p (fun _ => by exact y_add (.plain rfl) (.plain rfl) (by first | omega | (simp; omega) | (simp at hc; omega) | (simp at hc ⊢; omega) | (simp; done))) rfl ?_
                  refine st_p (fun _ => by exact y_assign (.plain rfl)) rfl ?_
                  refine aops_nil ?_
                  refine ⟨j + 1, ⟨by omega, fun i hi hik => ?_⟩, by omega, ?_⟩
                  · by_cases e : i = j
                    · subst e; exact hne
                    · exact hsm i hi (by omega)
                  · exact Weak.of2 (by (repeat (first | exact .nil _ | refine .cons rfl (by first | exact AV.Imp.refl _ | exact Sl.imp | exact AV.Imp.agg RowOf.imp | exact AV.Imp.grow_sl | exact AV.Imp.nil_grow | exact AV.Imp.full_grow | exact AV.Imp.own_grow | exact AV.Imp.grow_of rfl | exact AV.Imp.sl_of rfl | exact AV.Imp.int_of (by omega) | exact AV.Imp.of_eq (by first | omega | simpa)) ?_)); done) (by (repeat (first | exact .refl _ | exact .nil _ | apply ItLe2.cons (by first | exact .here | exact k1 | exact k2 | exact k3 | exact k4 | exact k5 | exact k6 | exact k7 | exact k8 | exact k9 | exact k10 | exact k11 | exact k12 | exact k13) | apply ItLe2.cells (by first | exact .here | exact k1 | exact k2 | exact k3 | exact k4 | exact k5 | exact k6 | exact k7 | exact k8 | exact k9 | exact k10 | exact k11 | exact k12 | exact k13) (by repeat (first | exact .nil | refine .cons (by first | exact AV.Imp.refl _ | exact Sl.imp | exact AV.Imp.agg RowOf.imp | exact AV.Imp.grow_sl | exact AV.Imp.nil_grow | exact AV.Imp.full_grow | exact AV.Imp.own_grow | exact AV.Imp.grow_of rfl | exact AV.Imp.sl_of rfl | exact AV.Imp.int_of (by omega) | exact AV.Imp.of_eq (by first | omega | simpa)) ?_)) | apply ItLe2.tail0)); done)
              · kernel_rfl
            · skip
              try simp only [decide_eq_true_eq, decide_eq_false_iff_not, Bool.not_eq_true', Bool.not_eq_false', Bool.not_eq_true, Bool.not_eq_false, List.length_map, Int.ofNat_lt, Int.ofNat_le, Bool.or_eq_true, Bool.and_eq_true, Bool.or_eq_false_iff, Bool.and_eq_false_iff] at h6
              have hany : (q.children.take k).any (fun y => Sv.same y.name q.children[k].name) = false := List.any_eq_false.2 fun y hy => by
                obtain ⟨i, hi, rfl⟩ := List.getElem_of_mem hy
                rw [List.length_take] at hi
                rw [List.getElem_take]
                simp [hsm i (by omega) (by omega)]
              refine awp_exit ?_
              refine awp_seq ?_
              refine awp_seq ?_
              refine awp_region ?_
              refine st_p (fun _ => by exact y_fieldPtr (.plain rfl)) rfl ?_
              refine st_p (fun _ => by exact y_load (.plain rfl) (by first | exact .here | exact k1 | exact k2 | exact k3 | exact k4 | exact k5 | exact k6 | exact k7 | exact k8 | exact k9 | exact k10 | exact k11 | exact k12 | exact k13) rfl) rfl ?_
              refine aops_call (blt_lt rfl) (.plain rfl) (.cons (.plain rfl) (.cons (.plain rfl) (.cons (.plain rfl) .nil))) (ACalls.here (between_c _ _ _) ?_)
              refine st_p (fun _ => by exact y_not (.plain rfl)) rfl ?_
              refine aops_nil ?_
              refine awp_cond rfl (fun h8 => ?_) (fun h8 => ?_)
              · skip
                try simp only [decide_eq_true_eq, decide_eq_false_iff_not, Bool.not_eq_true', Bool.not_eq_false', Bool.not_eq_true, Bool.not_eq_false, List.length_map, Int.ofNat_lt, Int.ofNat_le, Bool.or_eq_true, Bool.and_eq_true, Bool.or_eq_false_iff, Bool.and_eq_false_iff] at h8
                have hpo : Sv.win q.children[k].policy 1 3 = false := by simpa using h8
                refine awp_seq ?_
                refine awp_region ?_
                refine st_p (fun _ => by exact y_assign (.plain rfl)) rfl ?_
                refine aops_nil ?_
                refine awp_ret ?_
                refine retG (.inr rfl) (.cons (.tmp rfl) .nil) (VShift.of1 (AV.Imp.refl _) (.nil _)) ⟨congrArg (fun x : (Int) => (AV.int x)) (show _ = (Sv.chk q) from ?_), rfl⟩
                rw [hck, hinv, Sv.chkC_err q.children hkq (e := 8) (by rw [Sv.errC, if_neg (by simp [hnm]), if_neg (by simp [hany]), if_pos hpo]) (by decide)]
              · skip
                try simp only [decide_eq_true_eq, decide_eq_false_iff_not, Bool.not_eq_true', Bool.not_eq_false', Bool.not_eq_true, Bool.not_eq_false, List.length_map, Int.ofNat_lt, Int.ofNat_le, Bool.or_eq_true, Bool.and_eq_true, Bool.or_eq_false_iff, Bool.and_eq_false_iff] at h8
                have hpo : Sv.win q.children[k].policy 1 3 = true := by simpa using h8
                refine awp_skip ?_
                refine awp_seq ?_
                refine awp_region ?_
                refine st_p (fun _ => by exact y_fieldPtr (.plain rfl)) rfl ?_
                refine st_p (fun _ => by exact y_load (.plain rfl) (by first | exact .here | exact k1 | exact k2 | exact k3 | exact k4 | exact k5 | exact k6 | exact k7 | exact k8 | exact k9 | exact k10 | exact k11 | exact k12 | exact k13) rfl) rfl ?_
                refine aops_call (blt_lt rfl) (.plain rfl) (.cons (.plain rfl) (.cons (.plain rfl) (.cons (.plain rfl) .nil))) (ACalls.here (between_c _ _ _) ?_)
                refine st_p (fun _ => by exact y_not (.plain rfl)) rfl ?_
                refine aops_nil ?_
                refine awp_cond rfl (fun h9 => ?_) (fun h9 => ?_)
                · skip
                  try simp only [decide_eq_true_eq, decide_eq_false_iff_not, Bool.not_eq_true', Bool.not_eq_false', Bool.not_eq_true, Bool.not_eq_false, List.length_map, Int.ofNat_lt, Int.ofNat_le, Bool.or_eq_true, Bool.and_eq_true, Bool.or_eq_false_iff, Bool.and_eq_false_iff] at h9
                  have hsu : Sv.win q.children[k].sub (-1) 15 = false := by simpa using h9
                  refine awp_seq ?_
                  refine awp_region ?_
                  refine st_p (fun _ => by exact y_assign (.plain rfl)) rfl ?_
                  refine aops_nil ?_
                  refine awp_ret ?_
                  refine retG (.inr rfl) (.cons (.tmp rfl) .nil) (VShift.of1 (AV.Imp.refl _) (.nil _)) ⟨congrArg (fun x : (Int) => (AV.int x)) (show _ = (Sv.chk q) from ?_), rfl⟩
                  rw [hck, hinv, Sv.chkC_err q.children hkq (e := 2) (by rw [Sv.errC, if_neg (by simp [hnm]), if_neg (by simp [hany]), if_neg (by simp [hpo]), if_pos hsu]) (by decide)]
                · skip
                  try simp only [decide_eq_true_eq, decide_eq_false_iff_not, Bool.not_eq_true', Bool.not_eq_false', Bool.not_eq_true, Bool.not_eq_false, List.length_map, Int.ofNat_lt, Int.ofNat_le, Bool.or_eq_true, Bool.and_eq_true, Bool.or_eq_false_iff, Bool.and_eq_false_iff] at h9
                  have hsu : Sv.win q.children[k].sub (-1) 15 = true := by simpa using h9
                  refine awp_skip ?_
                  refine awp_region ?_
                  refine st_p (fun _ => by exact y_move (.plain rfl)) rfl ?_
                  refine st_p (fun _ => by exact y_add (.plain rfl) (.plain rfl) (by first | omega | (simp; omega) | (simp at hc; omega) | (simp at hc ⊢; omega) | (simp; done))) rfl ?_
                  refine st_p (fun _ => by exact y_assign (.plain rfl)) rfl ?_
                  refine aops_nil ?_
                  refine ⟨k + 1, ⟨by omega, hinv.trans (Sv.chkC_ok q.children (by assumption) ?_)⟩, by omega, ?_⟩
                  · rw [Sv.errC, if_neg (by simp [hnm]), if_neg (by simp [hany]), if_neg (by simp [hpo]), if_neg (by simp [hsu])]
                  · exact Weak.of2 (by (repeat (first | exact .nil _ | refine .cons rfl (by first | exact AV.Imp.refl _ | exact Sl.imp | exact AV.Imp.agg RowOf.imp | exact AV.Imp.grow_sl | exact AV.Imp.nil_grow | exact AV.Imp.full_grow | exact AV.Imp.own_grow | exact AV.Imp.grow_of rfl | exact AV.Imp.sl_of rfl | exact AV.Imp.int_of (by omega) | exact AV.Imp.of_eq (by first | omega | simpa)) ?_)); done) (by (repeat (first | exact .refl _ | exact .nil _ | apply ItLe2.cons (by first | exact .here | exact k1 | exact k2 | exact k3 | exact k4 | exact k5 | exact k6 | exact k7 | exact k8 | exact k9 | exact k10 | exact k11 | exact k12 | exact k13) | apply ItLe2.cells (by first | exact .here | exact k1 | exact k2 | exact k3 | exact k4 | exact k5 | exact k6 | exact k7 | exact k8 | exact k9 | exact k10 | exact k11 | exact k12 | exact k13) (by repeat (first | exact .nil | refine .cons (by first | exact AV.Imp.refl _ | exact Sl.imp | exact AV.Imp.agg RowOf.imp | exact AV.Imp.grow_sl | exact AV.Imp.nil_grow | exact AV.Imp.full_grow | exact AV.Imp.own_grow | exact AV.Imp.grow_of rfl | exact AV.Imp.sl_of rfl | exact AV.Imp.int_of (by omega) | exact AV.Imp.of_eq (by first | omega | simpa)) ?_)) | apply ItLe2.tail0)); done)
        · skip
          try simp only [decide_eq_true_eq, decide_eq_false_iff_not, Bool.not_eq_true', Bool.not_eq_false', Bool.not_eq_true, Bool.not_eq_false, List.length_map, Int.ofNat_lt, Int.ofNat_le, Bool.or_eq_true, Bool.and_eq_true, Bool.or_eq_false_iff, Bool.and_eq_false_iff] at h4
          refine awp_exit ?_
          refine awp_seq ?_
          refine awp_region ?_
          refine st_p (fun _ => by exact y_assign (.plain rfl)) rfl ?_
          refine aops_nil ?_
          refine awp_ret ?_
          refine retG (.inr rfl) (.cons (.tmp rfl) .nil) (VShift.of1 (AV.Imp.refl _) (.nil _)) ⟨congrArg (fun x : (Int) => (AV.int x)) (show _ = (Sv.chk q) from ?_), rfl⟩
          rw [hck, hinv, Sv.chkC_end q.children (by omega)]

theorem indexFCh_c (l : List (Sv.Ch)) (hl : l.length ≤ 1000000) (f : Nat) (caps : List AV) (p : Sv.Ch → Bool) (st0 : List Aw.Item) (h : ∀ w ∈ l, ACalls Try.prog f ([.agg (encCh w)] ++ caps) st0 (fun v st => v = .bool (p w) ∧ st = st0)) : ACalls Try.prog 32 [.sl 3 (l.map encCh), .clo f caps] st0 (fun v st => v = .int (idxF p l) ∧ st = st0) := by
  refine acalls_body Try.func32 (by kernel_rfl) rfl Try.ntmps32 (le_ rfl) ?_
  rw [Try.results32]
  refine awp_seq ?_
  refine awp_region ?_
  refine st_p (fun _ => by exact y_assign (.plain rfl)) rfl ?_
  refine aops_nil ?_
  refine awp_seq ?_
  refine awp_seq ?_
  refine awp_region ?_
  refine st_p (fun _ => by exact y_move (.plain rfl)) rfl ?_
  first | refine st_p (fun _ => by exact y_lenN (.plain rfl)) rfl ?_ | refine st_p (fun _ => by exact y_len (.plain rfl)) rfl ?_ | refine st_p (fun _ => by exact y_lenArr (.plain rfl)) rfl ?_ | refine st_p (fun _ => by exact y_strLen (by rfl) (.plain rfl)) rfl ?_
  refine st_p (fun _ => by exact y_move (.plain rfl)) rfl ?_
  refine aops_nil ?_
  refine awp_block ?_
  refine awp_loop2 (X := Nat) [0, 1, 7] (.cons rfl (.cons rfl (.cons rfl .nil))) (fun σ x => ((8, .int (x : Int)) : Nat × AV) :: σ) (fun R x => R) (fun x => x ≤ l.length ∧ (∀ i (h : i < l.length), i < x → p l[i] = false)) (fun x => l.length - x) 0 (by exact Weak.of2 (by (repeat (first | exact .nil _ | refine .cons rfl (by first | exact AV.Imp.refl _ | exact Sl.imp | exact AV.Imp.agg RowOf.imp | exact AV.Imp.grow_sl | exact AV.Imp.nil_grow | exact AV.Imp.full_grow | exact AV.Imp.own_grow | exact AV.Imp.grow_of rfl | exact AV.Imp.sl_of rfl | exact AV.Imp.int_of (by omega) | exact AV.Imp.of_eq (by first | omega | simpa)) ?_)); done) (by (repeat (first | exact .refl _ | exact .nil _ | apply ItLe2.cons (by first | exact .here | exact k1 | exact k2 | exact k3 | exact k4 | exact k5 | exact k6 | exact k7 | exact k8 | exact k9 | exact k10 | exact k11 | exact k12 | exact k13) | apply ItLe2.cells (by first | exact .here | exact k1 | exact k2 | exact k3 | exact k4 | exact k5 | exact k6 | exact k7 | exact k8 | exact k9 | exact k10 | exact k11 | exact k12 | exact k13) (by repeat (first | exact .nil | refine .cons (by first | exact AV.Imp.refl _ | exact Sl.imp | exact AV.Imp.agg RowOf.imp | exact AV.Imp.grow_sl | exact AV.Imp.nil_grow | exact AV.Imp.full_grow | exact AV.Imp.own_grow | exact AV.Imp.grow_of rfl | exact AV.Imp.sl_of rfl | exact AV.Imp.int_of (by omega) | exact AV.Imp.of_eq (by first | omega | simpa)) ?_)) | apply ItLe2.tail0)); done)) ⟨Nat.zero_le _, by omega⟩ ?_
  rintro k ⟨hk, hinv⟩
  refine awp_seq ?_
  refine awp_region ?_
  refine st_p (fun _ => by exact y_lss (.plain rfl) (.plain rfl)) rfl ?_
  refine aops_nil ?_
  refine awp_seq ?_
  refine awp_cond rfl (fun h1 => ?_) (fun h1 => ?_)
  · skip
    try simp only [decide_eq_true_eq, decide_eq_false_iff_not, Bool.not_eq_true', Bool.not_eq_false', Bool.not_eq_true, Bool.not_eq_false, List.length_map, Int.ofNat_lt, Int.ofNat_le, Bool.or_eq_true, Bool.and_eq_true, Bool.or_eq_false_iff, Bool.and_eq_false_iff] at h1
    refine awp_skip ?_
    refine awp_seq ?_
    refine awp_block ?_
    refine awp_seq ?_
    refine awp_region ?_
    refine st_p (fun _ => by exact y_move (.plain rfl)) rfl ?_
    refine st_p (fun _ => by exact y_assign (.plain rfl)) rfl ?_
    refine aops_nil ?_
    refine awp_seq ?_
    refine awp_region ?_
    refine st_p (fun _ => by exact y_move (.plain rfl)) rfl ?_
    refine st_p (fun _ => by exact y_move (.plain rfl)) rfl ?_
    refine st_p (fun _ => by exact y_move (.plain rfl)) rfl ?_
    first | refine st_p (fun _ => by exact y_indexMap (.plain rfl) (.plain rfl) rfl (by refine ⟨?_, ?_⟩; (first | omega | (simp; omega) | (simp at hc; omega) | (simp at hc ⊢; omega) | (simp; done)); rfl)) rfl ?_ | refine st_p (fun _ => by exact y_indexT (.plain rfl) (.plain rfl) (by first | omega | (simp; omega) | (simp at hc; omega) | (simp at hc ⊢; omega) | (simp; done)) (by first | omega | (simp; omega) | (simp at hc; omega) | (simp at hc ⊢; omega) | (simp; done))) rfl ?_ | refine st_p (fun _ => by exact y_index (.plain rfl) (.plain rfl) (by omega) rfl) rfl ?_ | refine st_p (fun _ => by exact y_indexArr (.plain rfl) (.plain rfl) rfl (by first | omega | (simp; omega) | (simp at hc; omega) | (simp at hc ⊢; omega) | (simp; done))) rfl ?_
    first | refine st_p (fun _ => by exact y_loadEW (.plain rfl) (by rfl)) rfl ?_ | refine st_p (fun _ => by exact y_loadEAggN (cs' := [_, _, _]) (.plain rfl) (le_ rfl) rfl) rfl ?_
    refine aops_call (blt_lt rfl) (.plain rfl) (.cons (.plain rfl) .nil) ((h l[k] (List.getElem_mem h1)).mono ?_)
    rintro v st ⟨rfl, rfl⟩
    refine aops_nil ?_
    refine awp_cond rfl (fun h2 => ?_) (fun h2 => ?_)
    · skip
      try simp only [decide_eq_true_eq, decide_eq_false_iff_not, Bool.not_eq_true', Bool.not_eq_false', Bool.not_eq_true, Bool.not_eq_false, List.length_map, Int.ofNat_lt, Int.ofNat_le, Bool.or_eq_true, Bool.and_eq_true, Bool.or_eq_false_iff, Bool.and_eq_false_iff] at h2
      refine awp_seq ?_
      refine awp_region ?_
      refine st_p (fun _ => by exact y_move (.plain rfl)) rfl ?_
      refine st_p (fun _ => by exact y_assign (.plain rfl)) rfl ?_
      refine aops_nil ?_
      refine awp_ret ?_
      exact retG (.inr rfl) (.cons (.tmp rfl) .nil) VShift.refl ⟨by rw [idxF_at p l k h1 h2 hinv]; rfl, rfl⟩
    · skip
      try simp only [decide_eq_true_eq, decide_eq_false_iff_not, Bool.not_eq_true', Bool.not_eq_false', Bool.not_eq_true, Bool.not_eq_false, List.length_map, Int.ofNat_lt, Int.ofNat_le, Bool.or_eq_true, Bool.and_eq_true, Bool.or_eq_false_iff, Bool.and_eq_false_iff] at h2
      refine awp_skip ?_
      refine awp_region ?_
      refine st_p (fun _ => by exact y_add (.plain rfl) (.plain rfl) (by first | omega | (simp; omega) | (simp at hc; omega) | (simp at hc ⊢; omega) | (simp; done))) rfl ?_
      refine st_p (fun _ => by exact y_move (.plain rfl)) rfl ?_
      refine aops_nil ?_
      refine ⟨k + 1, ?_, ?_, Weak.of2 (by (repeat (first | exact .nil _ | refine .cons rfl (by first | exact AV.Imp.refl _ | exact Sl.imp | exact AV.Imp.agg RowOf.imp | exact AV.Imp.grow_sl | exact AV.Imp.nil_grow | exact AV.Imp.full_grow | exact AV.Imp.own_grow | exact AV.Imp.grow_of rfl | exact AV.Imp.sl_of rfl | exact AV.Imp.int_of (by omega) | exact AV.Imp.of_eq (by first | omega | simpa)) ?_)); done) (by (repeat (first | exact .refl _ | exact .nil _ | apply ItLe2.cons (by first | exact .here | exact k1 | exact k2 | exact k3 | exact k4 | exact k5 | exact k6 | exact k7 | exact k8 | exact k9 | exact k10 | exact k11 | exact k12 | exact k13) | apply ItLe2.cells (by first | exact .here | exact k1 | exact k2 | exact k3 | exact k4 | exact k5 | exact k6 | exact k7 | exact k8 | exact k9 | exact k10 | exact k11 | exact k12 | exact k13) (by repeat (first | exact .nil | refine .cons (by first | exact AV.Imp.refl _ | exact Sl.imp | exact AV.Imp.agg RowOf.imp | exact AV.Imp.grow_sl | exact AV.Imp.nil_grow | exact AV.Imp.full_grow | exact AV.Imp.own_grow | exact AV.Imp.grow_of rfl | exact AV.Imp.sl_of rfl | exact AV.Imp.int_of (by omega) | exact AV.Imp.of_eq (by first | omega | simpa)) ?_)) | apply ItLe2.tail0)); done)⟩
      · refine ⟨by omega, ?_⟩
        intro i hi hik
        by_cases e : i = k
        · subst e; exact h2
        · exact hinv i hi (by omega)
      · omega
  · skip
    try simp only [decide_eq_true_eq, decide_eq_false_iff_not, Bool.not_eq_true', Bool.not_eq_false', Bool.not_eq_true, Bool.not_eq_false, List.length_map, Int.ofNat_lt, Int.ofNat_le, Bool.or_eq_true, Bool.and_eq_true, Bool.or_eq_false_iff, Bool.and_eq_false_iff] at h1
    refine awp_exit ?_
    refine awp_seq ?_
    refine awp_region ?_
    refine st_p (fun _ => by exact y_assign (.plain rfl)) rfl ?_
    refine aops_nil ?_
    refine awp_ret ?_
    exact retG (.inr rfl) (.cons (.tmp rfl) .nil) VShift.refl ⟨by rw [idxF_no p l (fun i hi => hinv i hi (by omega))]; rfl, rfl⟩

theorem containsFCh_c (l : List (Sv.Ch)) (hl : l.length ≤ 1000000) (f : Nat) (caps : List AV) (p : Sv.Ch → Bool) (st0 : List Aw.Item) (h : ∀ w ∈ l, ACalls Try.prog f ([.agg (encCh w)] ++ caps) st0 (fun v st => v = .bool (p w) ∧ st = st0)) : ACalls Try.prog 24 [.sl 3 (l.map encCh), .clo f caps] st0 (fun v st => v = .bool (l.any p) ∧ st = st0) := by
  refine acalls_body Try.func24 (by kernel_rfl) rfl Try.ntmps24 (le_ rfl) ?_
  rw [Try.results24]
  refine awp_seq ?_
  refine awp_region ?_
  refine st_p (fun _ => by exact y_assign (.plain rfl)) rfl ?_
  refine aops_nil ?_
  refine awp_seq ?_
  refine awp_region ?_
  refine st_p (fun _ => by exact y_move (.plain rfl)) rfl ?_
  refine st_p (fun _ => by exact y_move (.plain rfl)) rfl ?_
  refine aops_call (blt_lt rfl) (.plain rfl) (.cons (.plain rfl) (.cons (.plain rfl) .nil)) ((indexFCh_c l hl f caps p st0 h).mono ?_)
  rintro v st ⟨rfl, rfl⟩
  refine st_p (fun _ => by exact y_geq (.plain rfl) (.plain rfl)) rfl ?_
  refine st_p (fun _ => by exact y_assign (.plain rfl)) rfl ?_
  refine aops_nil ?_
  refine awp_ret ?_
  exact retG (.inr rfl) (.cons (.tmp rfl) .nil) VShift.refl ⟨by rw [← idxF_any]; rfl, rfl⟩

theorem sameN_c (p : Nat) (c y : Sv.Ch) : ACalls Try.prog 25 [.agg (encCh y), .ptr p 0] [.cells p (encCh c)] (fun v st => v = .bool (Sv.same y.name c.name) ∧ st = [.cells p (encCh c)]) := by
  refine acalls_body Try.func25 (by kernel_rfl) rfl Try.ntmps25 (le_ rfl) ?_
  rw [Try.results25]
  refine awp_seq ?_
  refine awp_region ?_
  refine st_n (fun _ => by exact y_box (.plain rfl)) rfl fun n1 => ?_
  refine st_p (fun _ => by exact y_assign (.plain rfl)) rfl ?_
  refine aops_nil ?_
  refine awp_seq ?_
  refine awp_region ?_
  refine st_p (fun _ => by exact y_fieldPtr (.plain rfl)) rfl ?_
  refine st_p (fun _ => by exact y_load (.plain rfl) (by first | exact .here | exact k1 | exact k2 | exact k3 | exact k4 | exact k5 | exact k6 | exact k7 | exact k8 | exact k9 | exact k10 | exact k11 | exact k12 | exact k13) rfl) rfl ?_
  refine st_p (fun _ => by exact y_fieldPtr (.plain rfl)) rfl ?_
  refine st_p (fun _ => by exact y_load (.plain rfl) (by first | exact .here | exact k1 | exact k2 | exact k3 | exact k4 | exact k5 | exact k6 | exact k7 | exact k8 | exact k9 | exact k10 | exact k11 | exact k12 | exact k13) rfl) rfl ?_
  refine st_p (fun _ => by exact y_strEq (.plain rfl) (.plain rfl)) rfl ?_
  refine st_p (fun _ => by exact y_assign (.plain rfl)) rfl ?_
  refine aops_nil ?_
  refine awp_ret ?_
  exact retG (.inr rfl) (.cons (.tmp rfl) .nil) (VShift.of2 (AV.Imp.refl _) (by (repeat (first | exact .refl _ | exact .nil _ | apply ItLe2.cons (by first | exact .here | exact k1 | exact k2 | exact k3 | exact k4 | exact k5 | exact k6 | exact k7 | exact k8 | exact k9 | exact k10 | exact k11 | exact k12 | exact k13) | apply ItLe2.cells (by first | exact .here | exact k1 | exact k2 | exact k3 | exact k4 | exact k5 | exact k6 | exact k7 | exact k8 | exact k9 | exact k10 | exact k11 | exact k12 | exact k13) (by repeat (first | exact .nil | refine .cons (by first | exact AV.Imp.refl _ | exact Sl.imp | exact AV.Imp.agg RowOf.imp | exact AV.Imp.grow_sl | exact AV.Imp.nil_grow | exact AV.Imp.full_grow | exact AV.Imp.own_grow | exact AV.Imp.grow_of rfl | exact AV.Imp.sl_of rfl | exact AV.Imp.int_of (by omega) | exact AV.Imp.of_eq (by first | omega | simpa)) ?_)) | apply ItLe2.tail0)); done)) ⟨rfl, rfl⟩

theorem check_c (q : Sv.Spc) (hl : q.children.length ≤ 1000000) (hz : ∀ c ∈ q.children, c.name.size ≤ 1000000) : ACalls Try.prog 16 [(AV.agg (encSp q))] [] (fun v st => v = (AV.int (Sv.chk q)) ∧ st = []) := by
  refine acalls_body Try.func16 (by kernel_rfl) rfl Try.ntmps16 (le_ rfl) ?_
  rw [Try.results16]
  refine awp_seq ?_
  refine awp_region ?_
  refine st_n (fun _ => by exact y_box (.plain rfl)) rfl fun n1 => ?_
  refine st_p (fun _ => by exact y_assign (.plain rfl)) rfl ?_
  refine aops_nil ?_
  refine awp_seq ?_
  refine awp_block ?_
  refine awp_seq ?_
  refine awp_region ?_
  refine st_p (fun _ => by exact y_fieldPtr (.plain rfl)) rfl ?_
  refine st_p (fun _ => by exact y_load (.plain rfl) (by first | exact .here | exact k1 | exact k2 | exact k3 | exact k4 | exact k5 | exact k6 | exact k7 | exact k8 | exact k9 | exact k10 | exact k11 | exact k12 | exact k13) rfl) rfl ?_
  refine aops_call (blt_lt rfl) (.plain rfl) (.cons (.plain rfl) (.cons (.plain rfl) (.cons (.plain rfl) .nil))) (ACalls.here (within_c _ _ _) ?_)
  refine st_p (fun _ => by exact y_not (.plain rfl)) rfl ?_
  refine st_p (fun _ => by exact y_assign (.plain rfl)) rfl ?_
  refine aops_nil ?_
  refine awp_cond rfl (fun h1 => ?_) (fun h1 => ?_)
  · skip
    try simp only [decide_eq_true_eq, decide_eq_false_iff_not, Bool.not_eq_true', Bool.not_eq_false', Bool.not_eq_true, Bool.not_eq_false, List.length_map, Int.ofNat_lt, Int.ofNat_le, Bool.or_eq_true, Bool.and_eq_true, Bool.or_eq_false_iff, Bool.and_eq_false_iff] at h1
    have w1 : Sv.win q.strategy 1 3 = false := by simpa using h1
    refine awp_seq ?_
    refine awp_region ?_
    refine st_p (fun _ => by exact y_assign (.plain rfl)) rfl ?_
    refine aops_nil ?_
    refine awp_ret ?_
    refine retG (.inr rfl) (.cons (.tmp rfl) .nil) (VShift.of1 (AV.Imp.refl _) (.nil _)) ⟨congrArg (fun x : (Int) => (AV.int x)) (show _ = (Sv.chk q) from ?_), rfl⟩
    rw [Sv.chk, if_pos w1]
  · skip
    try simp only [decide_eq_true_eq, decide_eq_false_iff_not, Bool.not_eq_true', Bool.not_eq_false', Bool.not_eq_true, Bool.not_eq_false, List.length_map, Int.ofNat_lt, Int.ofNat_le, Bool.or_eq_true, Bool.and_eq_true, Bool.or_eq_false_iff, Bool.and_eq_false_iff] at h1
    have w1 : Sv.win q.strategy 1 3 = true := by simpa using h1
    refine awp_seq ?_
    refine awp_region ?_
    refine st_p (fun _ => by exact y_fieldPtr (.plain rfl)) rfl ?_
    refine st_p (fun _ => by exact y_load (.plain rfl) (by first | exact .here | exact k1 | exact k2 | exact k3 | exact k4 | exact k5 | exact k6 | exact k7 | exact k8 | exact k9 | exact k10 | exact k11 | exact k12 | exact k13) rfl) rfl ?_
    refine aops_call (blt_lt rfl) (.plain rfl) (.cons (.plain rfl) (.cons (.plain rfl) (.cons (.plain rfl) .nil))) (ACalls.here (within_c _ _ _) ?_)
    refine st_p (fun _ => by exact y_not (.plain rfl)) rfl ?_
    refine st_p (fun _ => by exact y_move (.plain rfl)) rfl ?_
    refine st_g rfl rfl rfl SaysI.out (fun hc _ => by exact y_fieldPtr (.plain rfl)) rfl ?_
    refine st_g rfl rfl rfl SaysI.out (fun hc _ => by exact y_load (.opt rfl hc) (by first | exact .here | exact k1 | exact k2 | exact k3 | exact k4 | exact k5 | exact k6 | exact k7 | exact k8 | exact k9 | exact k10 | exact k11 | exact k12 | exact k13) rfl) rfl ?_
    refine st_g rfl rfl rfl SaysI.out (fun hc _ => by exact y_call (.plain rfl) (.cons (.opt rfl hc) (.cons (.plain rfl) (.cons (.plain rfl) .nil))) (ACalls.pure (within_c _ _ _))) rfl ?_
    refine st_g rfl rfl rfl SaysI.out (fun hc _ => by exact y_not (.opt rfl hc)) rfl ?_
    refine st_p (fun _ => by exact y_or (.plain rfl) rfl rfl) rfl ?_
    refine st_p (fun _ => by exact y_assign (.plain rfl)) rfl ?_
    refine aops_nil ?_
    refine awp_cond rfl (fun h2 => ?_) (fun h2 => ?_)
    · skip
      try simp only [decide_eq_true_eq, decide_eq_false_iff_not, Bool.not_eq_true', Bool.not_eq_false', Bool.not_eq_true, Bool.not_eq_false, List.length_map, Int.ofNat_lt, Int.ofNat_le, Bool.or_eq_true, Bool.and_eq_true, Bool.or_eq_false_iff, Bool.and_eq_false_iff] at h2
      have w2 : (Sv.win q.intensity 0 100 && Sv.win q.window 1 1099511627776) = false := by
        rw [Bool.and_eq_false_iff]
        simpa using h2
      refine awp_seq ?_
      refine awp_region ?_
      refine st_p (fun _ => by exact y_assign (.plain rfl)) rfl ?_
      refine aops_nil ?_
      refine awp_ret ?_
      refine retG (.inr rfl) (.cons (.tmp rfl) .nil) (VShift.of1 (AV.Imp.refl _) (.nil _)) ⟨congrArg (fun x : (Int) => (AV.int x)) (show _ = (Sv.chk q) from ?_), rfl⟩
      rw [Sv.chk, if_neg (by simp [w1]), if_pos w2]
    · skip
      try simp only [decide_eq_true_eq, decide_eq_false_iff_not, Bool.not_eq_true', Bool.not_eq_false', Bool.not_eq_true, Bool.not_eq_false, List.length_map, Int.ofNat_lt, Int.ofNat_le, Bool.or_eq_true, Bool.and_eq_true, Bool.or_eq_false_iff, Bool.and_eq_false_iff] at h2
      have w2 : (Sv.win q.intensity 0 100 && Sv.win q.window 1 1099511627776) = true := by simpa using h2
      refine awp_seq ?_
      refine awp_region ?_
      refine st_p (fun _ => by exact y_fieldPtr (.plain rfl)) rfl ?_
      refine st_p (fun _ => by exact y_load (.plain rfl) (by first | exact .here | exact k1 | exact k2 | exact k3 | exact k4 | exact k5 | exact k6 | exact k7 | exact k8 | exact k9 | exact k10 | exact k11 | exact k12 | exact k13) rfl) rfl ?_
      first | refine st_p (fun _ => by exact y_lenN (.plain rfl)) rfl ?_ | refine st_p (fun _ => by exact y_len (.plain rfl)) rfl ?_ | refine st_p (fun _ => by exact y_lenArr (.plain rfl)) rfl ?_ | refine st_p (fun _ => by exact y_strLen (by rfl) (.plain rfl)) rfl ?_
      refine aops_call (blt_lt rfl) (.plain rfl) (.cons (.plain rfl) (.cons (.plain rfl) (.cons (.plain rfl) .nil))) (ACalls.here (within_c _ _ _) ?_)
      refine st_p (fun _ => by exact y_not (.plain rfl)) rfl ?_
      refine st_p (fun _ => by exact y_assign (.plain rfl)) rfl ?_
      refine aops_nil ?_
      refine awp_cond rfl (fun h3 => ?_) (fun h3 => ?_)
      · skip
        try simp only [decide_eq_true_eq, decide_eq_false_iff_not, Bool.not_eq_true', Bool.not_eq_false', Bool.not_eq_true, Bool.not_eq_false, List.length_map, Int.ofNat_lt, Int.ofNat_le, Bool.or_eq_true, Bool.and_eq_true, Bool.or_eq_false_iff, Bool.and_eq_false_iff] at h3
        have w3 : Sv.win q.children.length 1 16 = false := by simpa using h3
        refine awp_seq ?_
        refine awp_region ?_
        refine st_p (fun _ => by exact y_assign (.plain rfl)) rfl ?_
        refine aops_nil ?_
        refine awp_ret ?_
        refine retG (.inr rfl) (.cons (.tmp rfl) .nil) (VShift.of1 (AV.Imp.refl _) (.nil _)) ⟨congrArg (fun x : (Int) => (AV.int x)) (show _ = (Sv.chk q) from ?_), rfl⟩
        rw [Sv.chk, if_neg (by simp [w1]), if_neg (by simp [w2]), if_pos w3]
      · skip
        try simp only [decide_eq_true_eq, decide_eq_false_iff_not, Bool.not_eq_true', Bool.not_eq_false', Bool.not_eq_true, Bool.not_eq_false, List.length_map, Int.ofNat_lt, Int.ofNat_le, Bool.or_eq_true, Bool.and_eq_true, Bool.or_eq_false_iff, Bool.and_eq_false_iff] at h3
        have w3 : Sv.win q.children.length 1 16 = true := by simpa using h3
        have hck : Sv.chk q = Sv.chkC q.children ((List.range q.children.length).drop 0) := by rw [Sv.chk, if_neg (by simp [w1]), if_neg (by simp [w2]), if_neg (by simp [w3])]; rfl
        refine awp_skip ?_
        refine awp_seq ?_
        refine awp_seq ?_
        refine awp_region ?_
        refine st_p (fun _ => by exact y_fieldPtr (.plain rfl)) rfl ?_
        refine st_p (fun _ => by exact y_load (.plain rfl) (by first | exact .here | exact k1 | exact k2 | exact k3 | exact k4 | exact k5 | exact k6 | exact k7 | exact k8 | exact k9 | exact k10 | exact k11 | exact k12 | exact k13) rfl) rfl ?_
        first | refine st_p (fun _ => by exact y_lenN (.plain rfl)) rfl ?_ | refine st_p (fun _ => by exact y_len (.plain rfl)) rfl ?_ | refine st_p (fun _ => by exact y_lenArr (.plain rfl)) rfl ?_ | refine st_p (fun _ => by exact y_strLen (by rfl) (.plain rfl)) rfl ?_
        refine st_p (fun _ => by exact y_move (.plain rfl)) rfl ?_
        refine aops_nil ?_
        refine awp_block ?_
        refine awp_loop2 (X := Nat) [1, 28, 29] (.cons rfl (.cons rfl (.cons rfl .nil))) (fun σ x => ((30, .int (x : Int)) : Nat × AV) :: σ) (fun R x => .cells n1 (encSp q) :: R) (fun x => x ≤ q.children.length ∧ (Sv.chkC q.children ((List.range q.children.length).drop 0)) = (Sv.chkC q.children ((List.range q.children.length).drop x))) (fun x => q.children.length - x) 0 (by exact Weak.of2 (by (repeat (first | exact .nil _ | refine .cons rfl (by first | exact AV.Imp.refl _ | exact Sl.imp | exact AV.Imp.agg RowOf.imp | exact AV.Imp.grow_sl | exact AV.Imp.nil_grow | exact AV.Imp.full_grow | exact AV.Imp.own_grow | exact AV.Imp.grow_of rfl | exact AV.Imp.sl_of rfl | exact AV.Imp.int_of (by omega) | exact AV.Imp.of_eq (by first | omega | simpa)) ?_)); done) (by (repeat (first | exact .refl _ | exact .nil _ | apply ItLe2.cons (by first | exact .here | exact k1 | exact k2 | exact k3 | exact k4 | exact k5 | exact k6 | exact k7 | exact k8 | exact k9 | exact k10 | exact k11 | exact k12 | exact k13) | apply ItLe2.cells (by first | exact .here | exact k1 | exact k2 | exact k3 | exact k4 | exact k5 | exact k6 | exact k7 | exact k8 | exact k9 | exact k10 | exact k11 | exact k12 | exact k13) (by repeat (first | exact .nil | refine .cons (by first | exact AV.Imp.refl _ | exact Sl.imp | exact AV.Imp.agg RowOf.imp | exact AV.Imp.grow_sl | exact AV.Imp.nil_grow | exact AV.Imp.full_grow | exact AV.Imp.own_grow | exact AV.Imp.grow_of rfl | exact AV.Imp.sl_of rfl | exact AV.Imp.int_of (by omega) | exact AV.Imp.of_eq (by first | omega | simpa)) ?_)) | apply ItLe2.tail0)); done)) ⟨Nat.zero_le _, rfl⟩ ?_
        rintro k ⟨hk, hinv⟩
        refine awp_seq ?_
        refine awp_region ?_
        refine st_p (fun _ => by exact y_lss (.plain rfl) (.plain rfl)) rfl ?_
        refine aops_nil ?_
        refine awp_seq ?_
        refine awp_cond rfl (fun h4 => ?_) (fun h4 => ?_)
        · skip
          try simp only [decide_eq_true_eq, decide_eq_false_iff_not, Bool.not_eq_true', Bool.not_eq_false', Bool.not_eq_true, Bool.not_eq_false, List.length_map, Int.ofNat_lt, Int.ofNat_le, Bool.or_eq_true, Bool.and_eq_true, Bool.or_eq_false_iff, Bool.and_eq_false_iff] at h4
          have hkq : k < q.children.length := by omega
          refine awp_skip ?_
          refine awp_seq ?_
          refine awp_block ?_
          refine awp_seq ?_
          refine awp_region ?_
          refine st_p (fun _ => by exact y_move (.plain rfl)) rfl ?_
          first | refine st_p (fun _ => by exact y_indexMap (.plain rfl) (.plain rfl) rfl (by refine ⟨?_, ?_⟩; (first | omega | (simp; omega) | (simp at hc; omega) | (simp at hc ⊢; omega) | (simp; done)); rfl)) rfl ?_ | refine st_p (fun _ => by exact y_indexT (.plain rfl) (.plain rfl) (by first | omega | (simp; omega) | (simp at hc; omega) | (simp at hc ⊢; omega) | (simp; done)) (by first | omega | (simp; omega) | (simp at hc; omega) | (simp at hc ⊢; omega) | (simp; done))) rfl ?_ | refine st_p (fun _ => by exact y_index (.plain rfl) (.plain rfl) (by omega) rfl) rfl ?_ | refine st_p (fun _ => by exact y_indexArr (.plain rfl) (.plain rfl) rfl (by first | omega | (simp; omega) | (simp at hc; omega) | (simp at hc ⊢; omega) | (simp; done))) rfl ?_
          first | refine st_p (fun _ => by exact y_loadEW (.plain rfl) (by rfl)) rfl ?_ | refine st_p (fun _ => by exact y_loadEAggN (cs' := [_, _, _]) (.plain rfl) (le_ rfl) rfl) rfl ?_
          refine st_n (fun _ => by exact y_alloc) rfl fun n4 => ?_
          refine st_p (fun _ => by exact y_assign (.plain rfl)) rfl ?_
          refine st_s (fun _ => by exact y_storeW (by rfl) rfl (.plain rfl) (.plain rfl) (by first | exact .here | exact u1 | exact u2 | exact u3 | exact u4 | exact u5 | exact u6 | exact u7 | exact u8 | exact u9 | exact u10 | exact u11 | exact u12 | exact u13) (by rfl)) ?_
          refine aops_nil ?_
          refine awp_block ?_
          refine awp_seq ?_
          refine awp_region ?_
          refine st_p (fun _ => by exact y_fieldPtr (.plain rfl)) rfl ?_
          refine st_p (fun _ => by exact y_load (.plain rfl) (by first | exact .here | exact k1 | exact k2 | exact k3 | exact k4 | exact k5 | exact k6 | exact k7 | exact k8 | exact k9 | exact k10 | exact k11 | exact k12 | exact k13) rfl) rfl ?_
          refine aops_call (blt_lt rfl) (.plain rfl) (.cons (.plain rfl) .nil) (ACalls.here (isName_c _ (hz _ (List.getElem_mem (by assumption)))) ?_)
          refine st_p (fun _ => by exact y_not (.plain rfl)) rfl ?_
          refine st_p (fun _ => by exact y_assign (.plain rfl)) rfl ?_
          refine aops_nil ?_
          refine awp_cond rfl (fun h5 => ?_) (fun h5 => ?_)
          · skip
            try simp only [decide_eq_true_eq, decide_eq_false_iff_not, Bool.not_eq_true', Bool.not_eq_false', Bool.not_eq_true, Bool.not_eq_false, List.length_map, Int.ofNat_lt, Int.ofNat_le, Bool.or_eq_true, Bool.and_eq_true, Bool.or_eq_false_iff, Bool.and_eq_false_iff] at h5
            have hnm : Sv.isName q.children[k].name = false := by simpa using h5
            refine awp_seq ?_
            refine awp_region ?_
            refine st_p (fun _ => by exact y_assign (.plain rfl)) rfl ?_
            refine aops_nil ?_
            refine awp_ret ?_
            refine retG (.inr rfl) (.cons (.tmp rfl) .nil) (VShift.of1 (AV.Imp.refl _) (.nil _)) ⟨congrArg (fun x : (Int) => (AV.int x)) (show _ = (Sv.chk q) from ?_), rfl⟩
            rw [hck, hinv, Sv.chkC_err q.children hkq (e := 5) (by rw [Sv.errC, if_pos hnm]) (by decide)]
          · skip
            try simp only [decide_eq_true_eq, decide_eq_false_iff_not, Bool.not_eq_true', Bool.not_eq_false', Bool.not_eq_true, Bool.not_eq_false, List.length_map, Int.ofNat_lt, Int.ofNat_le, Bool.or_eq_true, Bool.and_eq_true, Bool.or_eq_false_iff, Bool.and_eq_false_iff] at h5
            have hnm : Sv.isName q.children[k].name = true := by simpa using h5
            refine awp_seq ?_
            refine awp_region ?_
            refine st_p (fun _ => by exact y_fieldPtr (.plain rfl)) rfl ?_
            refine st_p (fun _ => by exact y_load (.plain rfl) (by first | exact .here | exact k1 | exact k2 | exact k3 | exact k4 | exact k5 | exact k6 | exact k7 | exact k8 | exact k9 | exact k10 | exact k11 | exact k12 | exact k13) rfl) rfl ?_
            refine st_p (fun _ => by exact y_move (.plain rfl)) rfl ?_
            first | refine st_p (fun _ => by exact y_sliceNil (.plain rfl) (.plain rfl)) rfl ?_ | refine st_p (fun _ => by exact y_sliceRaw (.plain rfl) (.plain rfl)) rfl ?_ | refine st_p (fun _ => by exact y_sliceHiM (.plain rfl) (.plain rfl) rfl (by first | omega | (simp; omega) | (simp at hc; omega) | (simp at hc ⊢; omega) | (simp; done))) rfl ?_ | refine st_p (fun _ => by exact y_sliceHi (.plain rfl) (.plain rfl) rfl (by first | omega | (simp; omega) | (simp at hc; omega) | (simp at hc ⊢; omega) | (simp; done))) rfl ?_
            refine st_p (fun _ => by exact y_makeFunc (.cons (.plain rfl) .nil)) rfl ?_
            refine aops_call (blt_lt rfl) (.plain rfl) (.cons (.plain rfl) (.cons (.plain rfl) .nil)) (ACalls.then (ACalls.keep (by apply Takes.cons (by first | exact .here | exact k1 | exact k2 | exact k3 | exact k4 | exact k5 | exact k6 | exact k7 | exact k8 | exact k9 | exact k10 | exact k11 | exact k12 | exact k13); exact .nil _) (containsFCh_c (q.children.take k) (by rw [List.length_take]; omega) 25 [.ptr n4 0] (fun y => Sv.same y.name q.children[k].name) [.cells n4 (encCh q.children[k])] (fun y _ => sameN_c n4 q.children[k] y))) ?_)
            refine st_p (fun _ => by exact y_assign (.plain rfl)) rfl ?_
            refine aops_nil ?_
            refine awp_cond rfl (fun h6 => ?_) (fun h6 => ?_)
            · skip
              try simp only [decide_eq_true_eq, decide_eq_false_iff_not, Bool.not_eq_true', Bool.not_eq_false', Bool.not_eq_true, Bool.not_eq_false, List.length_map, Int.ofNat_lt, Int.ofNat_le, Bool.or_eq_true, Bool.and_eq_true, Bool.or_eq_false_iff, Bool.and_eq_false_iff] at h6
              have hany : ((q.children.take k).any (fun y => Sv.same y.name q.children[k].name)) = true := h6
              refine awp_seq ?_
              refine awp_region ?_
              refine st_p (fun _ => by exact y_assign (.plain rfl)) rfl ?_
              refine aops_nil ?_
              refine awp_ret ?_
              refine retG (.inr rfl) (.cons (.tmp rfl) .nil) (VShift.of1 (AV.Imp.refl _) (.nil _)) ⟨congrArg (fun x : (Int) => (AV.int x)) (show _ = (Sv.chk q) from ?_), rfl⟩
              rw [hck, hinv, Sv.chkC_err q.children hkq (e := 6) (by rw [Sv.errC, if_neg (by simp [hnm]), if_pos hany]) (by decide)]
            · skip
              try simp only [decide_eq_true_eq, decide_eq_false_iff_not, Bool.not_eq_true', Bool.not_eq_false', Bool.not_eq_true, Bool.not_eq_false, List.length_map, Int.ofNat_lt, Int.ofNat_le, Bool.or_eq_true, Bool.and_eq_true, Bool.or_eq_false_iff, Bool.and_eq_false_iff] at h6
              have hany : ((q.children.take k).any (fun y => Sv.same y.name q.children[k].name)) = false := h6
              refine awp_seq ?_
              refine awp_region ?_
              refine st_p (fun _ => by exact y_fieldPtr (.plain rfl)) rfl ?_
              refine st_p (fun _ => by exact y_load (.plain rfl) (by first | exact .here | exact k1 | exact k2 | exact k3 | exact k4 | exact k5 | exact k6 | exact k7 | exact k8 | exact k9 | exact k10 | exact k11 | exact k12 | exact k13) rfl) rfl ?_
              refine aops_call (blt_lt rfl) (.plain rfl) (.cons (.plain rfl) (.cons (.plain rfl) (.cons (.plain rfl) .nil))) (ACalls.here (within_c _ _ _) ?_)
              refine st_p (fun _ => by exact y_not (.plain rfl)) rfl ?_
              refine st_p (fun _ => by exact y_assign (.plain rfl)) rfl ?_
              refine aops_nil ?_
              refine awp_cond rfl (fun h7 => ?_) (fun h7 => ?_)
              · skip
                try simp only [decide_eq_true_eq, decide_eq_false_iff_not, Bool.not_eq_true', Bool.not_eq_false', Bool.not_eq_true, Bool.not_eq_false, List.length_map, Int.ofNat_lt, Int.ofNat_le, Bool.or_eq_true, Bool.and_eq_true, Bool.or_eq_false_iff, Bool.and_eq_false_iff] at h7
                have hpo : Sv.win q.children[k].policy 1 3 = false := by simpa using h7
                refine awp_seq ?_
                refine awp_region ?_
                refine st_p (fun _ => by exact y_assign (.plain rfl)) rfl ?_
                refine aops_nil ?_
                refine awp_ret ?_
                refine retG (.inr rfl) (.cons (.tmp rfl) .nil) (VShift.of1 (AV.Imp.refl _) (.nil _)) ⟨congrArg (fun x : (Int) => (AV.int x)) (show _ = (Sv.chk q) from ?_), rfl⟩
                rw [hck, hinv, Sv.chkC_err q.children hkq (e := 8) (by rw [Sv.errC, if_neg (by simp [hnm]), if_neg (by simp [hany]), if_pos hpo]) (by decide)]
              · skip
                try simp only [decide_eq_true_eq, decide_eq_false_iff_not, Bool.not_eq_true', Bool.not_eq_false', Bool.not_eq_true, Bool.not_eq_false, List.length_map, Int.ofNat_lt, Int.ofNat_le, Bool.or_eq_true, Bool.and_eq_true, Bool.or_eq_false_iff, Bool.and_eq_false_iff] at h7
                have hpo : Sv.win q.children[k].policy 1 3 = true := by simpa using h7
                refine awp_seq ?_
                refine awp_region ?_
                refine st_p (fun _ => by exact y_fieldPtr (.plain rfl)) rfl ?_
                refine st_p (fun _ => by exact y_load (.plain rfl) (by first | exact .here | exact k1 | exact k2 | exact k3 | exact k4 | exact k5 | exact k6 | exact k7 | exact k8 | exact k9 | exact k10 | exact k11 | exact k12 | exact k13) rfl) rfl ?_
                refine aops_call (blt_lt rfl) (.plain rfl) (.cons (.plain rfl) (.cons (.plain rfl) (.cons (.plain rfl) .nil))) (ACalls.here (within_c _ _ _) ?_)
                refine st_p (fun _ => by exact y_not (.plain rfl)) rfl ?_
                refine st_p (fun _ => by exact y_assign (.plain rfl)) rfl ?_
                refine aops_nil ?_
                refine awp_cond rfl (fun h8 => ?_) (fun h8 => ?_)
                · skip
                  try simp only [decide_eq_true_eq, decide_eq_false_iff_not, Bool.not_eq_true', Bool.not_eq_false', Bool.not_eq_true, Bool.not_eq_false, List.length_map, Int.ofNat_lt, Int.ofNat_le, Bool.or_eq_true, Bool.and_eq_true, Bool.or_eq_false_iff, Bool.and_eq_false_iff] at h8
                  have hsu : Sv.win q.children[k].sub (-1) 15 = false := by simpa using h8
                  refine awp_seq ?_
                  refine awp_region ?_
                  refine st_p (fun _ => by exact y_assign (.plain rfl)) rfl ?_
                  refine aops_nil ?_
                  refine awp_ret ?_
                  refine retG (.inr rfl) (.cons (.tmp rfl) .nil) (VShift.of1 (AV.Imp.refl _) (.nil _)) ⟨congrArg (fun x : (Int) => (AV.int x)) (show _ = (Sv.chk q) from ?_), rfl⟩
                  rw [hck, hinv, Sv.chkC_err q.children hkq (e := 2) (by rw [Sv.errC, if_neg (by simp [hnm]), if_neg (by simp [hany]), if_neg (by simp [hpo]), if_pos hsu]) (by decide)]
                · skip
                  try simp only [decide_eq_true_eq, decide_eq_false_iff_not, Bool.not_eq_true', Bool.not_eq_false', Bool.not_eq_true, Bool.not_eq_false, List.length_map, Int.ofNat_lt, Int.ofNat_le, Bool.or_eq_true, Bool.and_eq_true, Bool.or_eq_false_iff, Bool.and_eq_false_iff] at h8
                  have hsu : Sv.win q.children[k].sub (-1) 15 = true := by simpa using h8
                  refine awp_skip ?_
                  refine awp_region ?_
                  refine st_p (fun _ => by exact y_add (.plain rfl) (.plain rfl) (by first | omega | (simp; omega) | (simp at hc; omega) | (simp at hc ⊢; omega) | (simp; done))) rfl ?_
                  refine st_p (fun _ => by exact y_move (.plain rfl)) rfl ?_
                  refine aops_nil ?_
                  refine ⟨k + 1, ⟨by omega, hinv.trans (Sv.chkC_ok q.children (by assumption) ?_)⟩, by omega, ?_⟩
                  · rw [Sv.errC, if_neg (by simp [hnm]), if_neg (by simp [hany]), if_neg (by simp [hpo]), if_neg (by simp [hsu])]
                  · exact Weak.of2 (by (repeat (first | exact .nil _ | refine .cons rfl (by first | exact AV.Imp.refl _ | exact Sl.imp | exact AV.Imp.agg RowOf.imp | exact AV.Imp.grow_sl | exact AV.Imp.nil_grow | exact AV.Imp.full_grow | exact AV.Imp.own_grow | exact AV.Imp.grow_of rfl | exact AV.Imp.sl_of rfl | exact AV.Imp.int_of (by omega) | exact AV.Imp.of_eq (by first | omega | simpa)) ?_)); done) (by (repeat (first | exact .refl _ | exact .nil _ | apply ItLe2.cons (by first | exact .here | exact k1 | exact k2 | exact k3 | exact k4 | exact k5 | exact k6 | exact k7 | exact k8 | exact k9 | exact k10 | exact k11 | exact k12 | exact k13) | apply ItLe2.cells (by first | exact .here | exact k1 | exact k2 | exact k3 | exact k4 | exact k5 | exact k6 | exact k7 | exact k8 | exact k9 | exact k10 | exact k11 | exact k12 | exact k13) (by repeat (first | exact .nil | refine .cons (by first | exact AV.Imp.refl _ | exact Sl.imp | exact AV.Imp.agg RowOf.imp | exact AV.Imp.grow_sl | exact AV.Imp.nil_grow | exact AV.Imp.full_grow | exact AV.Imp.own_grow | exact AV.Imp.grow_of rfl | exact AV.Imp.sl_of rfl | exact AV.Imp.int_of (by omega) | exact AV.Imp.of_eq (by first | omega | simpa)) ?_)) | apply ItLe2.tail0)); done)
        · skip
          try simp only [decide_eq_true_eq, decide_eq_false_iff_not, Bool.not_eq_true', Bool.not_eq_false', Bool.not_eq_true, Bool.not_eq_false, List.length_map, Int.ofNat_lt, Int.ofNat_le, Bool.or_eq_true, Bool.and_eq_true, Bool.or_eq_false_iff, Bool.and_eq_false_iff] at h4
          refine awp_exit ?_
          refine awp_seq ?_
          refine awp_region ?_
          refine st_p (fun _ => by exact y_assign (.plain rfl)) rfl ?_
          refine aops_nil ?_
          refine awp_ret ?_
          refine retG (.inr rfl) (.cons (.tmp rfl) .nil) (VShift.of1 (AV.Imp.refl _) (.nil _)) ⟨congrArg (fun x : (Int) => (AV.int x)) (show _ = (Sv.chk q) from ?_), rfl⟩
          rw [hck, hinv, Sv.chkC_end q.children (by omega)]

theorem indexFCs_c (l : List (Sv.Cs)) (hl : l.length ≤ 1000000) (f : Nat) (caps : List AV) (p : Sv.Cs → Bool) (st0 : List Aw.Item) (h : ∀ w ∈ l, ACalls Try.prog f ([.agg (encCs w)] ++ caps) st0 (fun v st => v = .bool (p w) ∧ st = st0)) : ACalls Try.prog 44 [.sl 2 (l.map encCs), .clo f caps] st0 (fun v st => v = .int (idxF p l) ∧ st = st0) := by
  refine acalls_body Try.func44 (by kernel_rfl) rfl Try.ntmps44 (le_ rfl) ?_
  rw [Try.results44]
  refine awp_seq ?_
  refine awp_region ?_
  refine st_p (fun _ => by exact y_assign (.plain rfl)) rfl ?_
  refine aops_nil ?_
  refine awp_seq ?_
  refine awp_seq ?_
  refine awp_region ?_
  refine st_p (fun _ => by exact y_move (.plain rfl)) rfl ?_
  first | refine st_p (fun _ => by exact y_lenN (.plain rfl)) rfl ?_ | refine st_p (fun _ => by exact y_len (.plain rfl)) rfl ?_ | refine st_p (fun _ => by exact y_lenArr (.plain rfl)) rfl ?_ | refine st_p (fun _ => by exact y_strLen (by rfl) (.plain rfl)) rfl ?_
  refine st_p (fun _ => by exact y_move (.plain rfl)) rfl ?_
  refine aops_nil ?_
  refine awp_block ?_
  refine awp_loop2 (X := Nat) [0, 1, 7] (.cons rfl (.cons rfl (.cons rfl .nil))) (fun σ x => ((8, .int (x : Int)) : Nat × AV) :: σ) (fun R x => R) (fun x => x ≤ l.length ∧ (∀ i (h : i < l.length), i < x → p l[i] = false)) (fun x => l.length - x) 0 (by exact Weak.of2 (by (repeat (first | exact .nil _ | refine .cons rfl (by first | exact AV.Imp.refl _ | exact Sl.imp | exact AV.Imp.agg RowOf.imp | exact AV.Imp.grow_sl | exact AV.Imp.nil_grow | exact AV.Imp.full_grow | exact AV.Imp.own_grow | exact AV.Imp.grow_of rfl | exact AV.Imp.sl_of rfl | exact AV.Imp.int_of (by omega) | exact AV.Imp.of_eq (by first | omega | simpa)) ?_)); done) (by (repeat (first | exact .refl _ | exact .nil _ | apply ItLe2.cons (by first | exact .here | exact k1 | exact k2 | exact k3 | exact k4 | exact k5 | exact k6 | exact k7 | exact k8 | exact k9 | exact k10 | exact k11 | exact k12 | exact k13) | apply ItLe2.cells (by first | exact .here | exact k1 | exact k2 | exact k3 | exact k4 | exact k5 | exact k6 | exact k7 | exact k8 | exact k9 | exact k10 | exact k11 | exact k12 | exact k13) (by repeat (first | exact .nil | refine .cons (by first | exact AV.Imp.refl _ | exact Sl.imp | exact AV.Imp.agg RowOf.imp | exact AV.Imp.grow_sl | exact AV.Imp.nil_grow | exact AV.Imp.full_grow | exact AV.Imp.own_grow | exact AV.Imp.grow_of rfl | exact AV.Imp.sl_of rfl | exact AV.Imp.int_of (by omega) | exact AV.Imp.of_eq (by first | omega | simpa)) ?_)) | apply ItLe2.tail0)); done)) ⟨Nat.zero_le _, by omega⟩ ?_
  rintro k ⟨hk, hinv⟩
  refine awp_seq ?_
  refine awp_region ?_
  refine st_p (fun _ => by exact y_lss (.plain rfl) (.plain rfl)) rfl ?_
  refine aops_nil ?_
  refine awp_seq ?_
  refine awp_cond rfl (fun h1 => ?_) (fun h1 => ?_)
  · skip
    try simp only [decide_eq_true_eq, decide_eq_false_iff_not, Bool.not_eq_true', Bool.not_eq_false', Bool.not_eq_true, Bool.not_eq_false, List.length_map, Int.ofNat_lt, Int.ofNat_le, Bool.or_eq_true, Bool.and_eq_true, Bool.or_eq_false_iff, Bool.and_eq_false_iff] at h1
    refine awp_skip ?_
    refine awp_seq ?_
    refine awp_block ?_
    refine awp_seq ?_
    refine awp_region ?_
    refine st_p (fun _ => by exact y_move (.plain rfl)) rfl ?_
    refine st_p (fun _ => by exact y_assign (.plain rfl)) rfl ?_
    refine aops_nil ?_
    refine awp_seq ?_
    refine awp_region ?_
    refine st_p (fun _ => by exact y_move (.plain rfl)) rfl ?_
    refine st_p (fun _ => by exact y_move (.plain rfl)) rfl ?_
    refine st_p (fun _ => by exact y_move (.plain rfl)) rfl ?_
    first | refine st_p (fun _ => by exact y_indexMap (.plain rfl) (.plain rfl) rfl (by refine ⟨?_, ?_⟩; (first | omega | (simp; omega) | (simp at hc; omega) | (simp at hc ⊢; omega) | (simp; done)); rfl)) rfl ?_ | refine st_p (fun _ => by exact y_indexT (.plain rfl) (.plain rfl) (by first | omega | (simp; omega) | (simp at hc; omega) | (simp at hc ⊢; omega) | (simp; done)) (by first | omega | (simp; omega) | (simp at hc; omega) | (simp at hc ⊢; omega) | (simp; done))) rfl ?_ | refine st_p (fun _ => by exact y_index (.plain rfl) (.plain rfl) (by omega) rfl) rfl ?_ | refine st_p (fun _ => by exact y_indexArr (.plain rfl) (.plain rfl) rfl (by first | omega | (simp; omega) | (simp at hc; omega) | (simp at hc ⊢; omega) | (simp; done))) rfl ?_
    first | refine st_p (fun _ => by exact y_loadEW (.plain rfl) (by rfl)) rfl ?_ | refine st_p (fun _ => by exact y_loadEAggN (cs' := [_, _]) (.plain rfl) (le_ rfl) rfl) rfl ?_
    refine aops_call (blt_lt rfl) (.plain rfl) (.cons (.plain rfl) .nil) ((h l[k] (List.getElem_mem h1)).mono ?_)
    rintro v st ⟨rfl, rfl⟩
    refine aops_nil ?_
    refine awp_cond rfl (fun h2 => ?_) (fun h2 => ?_)
    · skip
      try simp only [decide_eq_true_eq, decide_eq_false_iff_not, Bool.not_eq_true', Bool.not_eq_false', Bool.not_eq_true, Bool.not_eq_false, List.length_map, Int.ofNat_lt, Int.ofNat_le, Bool.or_eq_true, Bool.and_eq_true, Bool.or_eq_false_iff, Bool.and_eq_false_iff] at h2
      refine awp_seq ?_
      refine awp_region ?_
      refine st_p (fun _ => by exact y_move (.plain rfl)) rfl ?_
      refine st_p (fun _ => by exact y_assign (.plain rfl)) rfl ?_
      refine aops_nil ?_
      refine awp_ret ?_
      exact retG (.inr rfl) (.cons (.tmp rfl) .nil) VShift.refl ⟨by rw [idxF_at p l k h1 h2 hinv]; rfl, rfl⟩
    · skip
      try simp only [decide_eq_true_eq, decide_eq_false_iff_not, Bool.not_eq_true', Bool.not_eq_false', Bool.not_eq_true, Bool.not_eq_false, List.length_map, Int.ofNat_lt, Int.ofNat_le, Bool.or_eq_true, Bool.and_eq_true, Bool.or_eq_false_iff, Bool.and_eq_false_iff] at h2
      refine awp_skip ?_
      refine awp_region ?_
      refine st_p (fun _ => by exact y_add (.plain rfl) (.plain rfl) (by first | omega | (simp; omega) | (simp at hc; omega) | (simp at hc ⊢; omega) | (simp; done))) rfl ?_
      refine st_p (fun _ => by exact y_move (.plain rfl)) rfl ?_
      refine aops_nil ?_
      refine ⟨k + 1, ?_, ?_, Weak.of2 (by (repeat (first | exact .nil _ | refine .cons rfl (by first | exact AV.Imp.refl _ | exact Sl.imp | exact AV.Imp.agg RowOf.imp | exact AV.Imp.grow_sl | exact AV.Imp.nil_grow | exact AV.Imp.full_grow | exact AV.Imp.own_grow | exact AV.Imp.grow_of rfl | exact AV.Imp.sl_of rfl | exact AV.Imp.int_of (by omega) | exact AV.Imp.of_eq (by first | omega | simpa)) ?_)); done) (by (repeat (first | exact .refl _ | exact .nil _ | apply ItLe2.cons (by first | exact .here | exact k1 | exact k2 | exact k3 | exact k4 | exact k5 | exact k6 | exact k7 | exact k8 | exact k9 | exact k10 | exact k11 | exact k12 | exact k13) | apply ItLe2.cells (by first | exact .here | exact k1 | exact k2 | exact k3 | exact k4 | exact k5 | exact k6 | exact k7 | exact k8 | exact k9 | exact k10 | exact k11 | exact k12 | exact k13) (by repeat (first | exact .nil | refine .cons (by first | exact AV.Imp.refl _ | exact Sl.imp | exact AV.Imp.agg RowOf.imp | exact AV.Imp.grow_sl | exact AV.Imp.nil_grow | exact AV.Imp.full_grow | exact AV.Imp.own_grow | exact AV.Imp.grow_of rfl | exact AV.Imp.sl_of rfl | exact AV.Imp.int_of (by omega) | exact AV.Imp.of_eq (by first | omega | simpa)) ?_)) | apply ItLe2.tail0)); done)⟩
      · refine ⟨by omega, ?_⟩
        intro i hi hik
        by_cases e : i = k
        · subst e; exact h2
        · exact hinv i hi (by omega)
      · omega
  · skip
    try simp only [decide_eq_true_eq, decide_eq_false_iff_not, Bool.not_eq_true', Bool.not_eq_false', Bool.not_eq_true, Bool.not_eq_false, List.length_map, Int.ofNat_lt, Int.ofNat_le, Bool.or_eq_true, Bool.and_eq_true, Bool.or_eq_false_iff, Bool.and_eq_false_iff] at h1
    refine awp_exit ?_
    refine awp_seq ?_
    refine awp_region ?_
    refine st_p (fun _ => by exact y_assign (.plain rfl)) rfl ?_
    refine aops_nil ?_
    refine awp_ret ?_
    exact retG (.inr rfl) (.cons (.tmp rfl) .nil) VShift.refl ⟨by rw [idxF_no p l (fun i hi => hinv i hi (by omega))]; rfl, rfl⟩

theorem containsFCs_c (l : List (Sv.Cs)) (hl : l.length ≤ 1000000) (f : Nat) (caps : List AV) (p : Sv.Cs → Bool) (st0 : List Aw.Item) (h : ∀ w ∈ l, ACalls Try.prog f ([.agg (encCs w)] ++ caps) st0 (fun v st => v = .bool (p w) ∧ st = st0)) : ACalls Try.prog 34 [.sl 2 (l.map encCs), .clo f caps] st0 (fun v st => v = .bool (l.any p) ∧ st = st0) := by
  refine acalls_body Try.func34 (by kernel_rfl) rfl Try.ntmps34 (le_ rfl) ?_
  rw [Try.results34]
  refine awp_seq ?_
  refine awp_region ?_
  refine st_p (fun _ => by exact y_assign (.plain rfl)) rfl ?_
  refine aops_nil ?_
  refine awp_seq ?_
  refine awp_region ?_
  refine st_p (fun _ => by exact y_move (.plain rfl)) rfl ?_
  refine st_p (fun _ => by exact y_move (.plain rfl)) rfl ?_
  refine aops_call (blt_lt rfl) (.plain rfl) (.cons (.plain rfl) (.cons (.plain rfl) .nil)) ((indexFCs_c l hl f caps p st0 h).mono ?_)
  rintro v st ⟨rfl, rfl⟩
  refine st_p (fun _ => by exact y_geq (.plain rfl) (.plain rfl)) rfl ?_
  refine st_p (fun _ => by exact y_assign (.plain rfl)) rfl ?_
  refine aops_nil ?_
  refine awp_ret ?_
  exact retG (.inr rfl) (.cons (.tmp rfl) .nil) VShift.refl ⟨by rw [← idxF_any]; rfl, rfl⟩

theorem starts_c (c : Sv.Cs) : ACalls Try.prog 35 [.agg (encCs c)] [] (fun v st => v = .bool (!Sv.win c.starts 1 1099511627776) ∧ st = []) := by
  refine acalls_body Try.func35 (by kernel_rfl) rfl Try.ntmps35 (le_ rfl) ?_
  rw [Try.results35]
  refine awp_seq ?_
  refine awp_region ?_
  refine st_n (fun _ => by exact y_box (.plain rfl)) rfl fun n1 => ?_
  refine st_p (fun _ => by exact y_assign (.plain rfl)) rfl ?_
  refine aops_nil ?_
  refine awp_seq ?_
  refine awp_region ?_
  refine st_p (fun _ => by exact y_fieldPtr (.plain rfl)) rfl ?_
  refine st_p (fun _ => by exact y_load (.plain rfl) (by first | exact .here | exact k1 | exact k2 | exact k3 | exact k4 | exact k5 | exact k6 | exact k7 | exact k8 | exact k9 | exact k10 | exact k11 | exact k12 | exact k13) rfl) rfl ?_
  refine aops_call (blt_lt rfl) (.plain rfl) (.cons (.plain rfl) (.cons (.plain rfl) (.cons (.plain rfl) .nil))) (ACalls.here (within_c _ _ _) ?_)
  refine st_p (fun _ => by exact y_not (.plain rfl)) rfl ?_
  refine st_p (fun _ => by exact y_assign (.plain rfl)) rfl ?_
  refine aops_nil ?_
  refine awp_ret ?_
  exact retG (.inr rfl) (.cons (.tmp rfl) .nil) (VShift.of2 (AV.Imp.refl _) (.nil _)) ⟨rfl, rfl⟩

theorem children_c (q : Sv.Spc) (s : Sv.Ss) (hl : s.children.length ≤ 1000000) : ACalls Try.prog 26 [(AV.agg (encSp q)), (AV.agg (encSs s))] [] (fun v st => v = (AV.bool (Sv.children q s)) ∧ st = []) := by
  refine acalls_body Try.func26 (by kernel_rfl) rfl Try.ntmps26 (le_ rfl) ?_
  rw [Try.results26]
  refine awp_seq ?_
  refine awp_region ?_
  refine st_n (fun _ => by exact y_box (.plain rfl)) rfl fun n1 => ?_
  refine st_n (fun _ => by exact y_box (.plain rfl)) rfl fun n2 => ?_
  refine st_p (fun _ => by exact y_assign (.plain rfl)) rfl ?_
  refine aops_nil ?_
  refine awp_seq ?_
  refine awp_region ?_
  refine st_p (fun _ => by exact y_fieldPtr (.plain rfl)) rfl ?_
  refine st_p (fun _ => by exact y_load (.plain rfl) (by first | exact .here | exact k1 | exact k2 | exact k3 | exact k4 | exact k5 | exact k6 | exact k7 | exact k8 | exact k9 | exact k10 | exact k11 | exact k12 | exact k13) rfl) rfl ?_
  refine st_p (fun _ => by exact y_assign (.plain rfl)) rfl ?_
  refine aops_nil ?_
  refine awp_seq ?_
  refine awp_region ?_
  refine st_p (fun _ => by exact y_move (.plain rfl)) rfl ?_
  refine aops_call (blt_lt rfl) (.plain rfl) (.cons (.imp (.plain rfl) (Sl.imp (enc := encCs))) (.cons (.plain rfl) .nil)) (ACalls.here (count_c _ _ (by first | assumption | omega | (simp; omega) | (simp; done) | decide +kernel | (simp_all; omega))) ?_)
  refine st_p (fun _ => by exact y_move (.plain rfl)) rfl ?_
  refine aops_call (blt_lt rfl) (.plain rfl) (.cons (.imp (.plain rfl) (Sl.imp (enc := encCs))) (.cons (.plain rfl) .nil)) (ACalls.here (count_c _ _ (by first | assumption | omega | (simp; omega) | (simp; done) | decide +kernel | (simp_all; omega))) ?_)
  refine st_p (fun _ => by exact y_move (.plain rfl)) rfl ?_
  refine aops_call (blt_lt rfl) (.plain rfl) (.cons (.imp (.plain rfl) (Sl.imp (enc := encCs))) (.cons (.plain rfl) .nil)) (ACalls.here (count_c _ _ (by first | assumption | omega | (simp; omega) | (simp; done) | decide +kernel | (simp_all; omega))) ?_)
  refine st_p (fun _ => by exact y_move (.plain rfl)) rfl ?_
  refine aops_call (blt_lt rfl) (.plain rfl) (.cons (.imp (.plain rfl) (Sl.imp (enc := encCs))) (.cons (.plain rfl) .nil)) (ACalls.here (count_c _ _ (by first | assumption | omega | (simp; omega) | (simp; done) | decide +kernel | (simp_all; omega))) ?_)
  refine st_p (fun _ => by exact y_assign (.plain rfl)) rfl ?_
  refine st_p (fun _ => by exact y_assign (.plain rfl)) rfl ?_
  refine st_p (fun _ => by exact y_assign (.plain rfl)) rfl ?_
  refine st_p (fun _ => by exact y_assign (.plain rfl)) rfl ?_
  refine aops_nil ?_
  refine awp_seq ?_
  refine awp_seq ?_
  have hf1 := List.length_filter_le (fun c : Sv.Cs => decide (c.status = 1)) s.children
  have hf2 := List.length_filter_le (fun c : Sv.Cs => decide (c.status = 2)) s.children
  have hf3 := List.length_filter_le (fun c : Sv.Cs => decide (c.status = 3)) s.children
  have hf4 := List.length_filter_le (fun c : Sv.Cs => decide (c.status = 4)) s.children
  refine awp_region ?_
  refine st_p (fun _ => by exact y_move (.plain rfl)) rfl ?_
  first | refine st_p (fun _ => by exact y_lenN (.plain rfl)) rfl ?_ | refine st_p (fun _ => by exact y_len (.plain rfl)) rfl ?_ | refine st_p (fun _ => by exact y_lenArr (.plain rfl)) rfl ?_ | refine st_p (fun _ => by exact y_strLen (by rfl) (.plain rfl)) rfl ?_
  refine st_p (fun _ => by exact y_fieldPtr (.plain rfl)) rfl ?_
  refine st_p (fun _ => by exact y_load (.plain rfl) (by first | exact .here | exact k1 | exact k2 | exact k3 | exact k4 | exact k5 | exact k6 | exact k7 | exact k8 | exact k9 | exact k10 | exact k11 | exact k12 | exact k13) rfl) rfl ?_
  first | refine st_p (fun _ => by exact y_lenN (.plain rfl)) rfl ?_ | refine st_p (fun _ => by exact y_len (.plain rfl)) rfl ?_ | refine st_p (fun _ => by exact y_lenArr (.plain rfl)) rfl ?_ | refine st_p (fun _ => by exact y_strLen (by rfl) (.plain rfl)) rfl ?_
  refine st_p (fun _ => by exact y_neq (.plain rfl) (.plain rfl)) rfl ?_
  refine st_p (fun _ => by exact y_move (.plain rfl)) rfl ?_
  refine st_g rfl rfl rfl SaysI.out (fun hc _ => by exact y_move (.plain rfl)) rfl ?_
  refine st_g rfl rfl rfl SaysI.out (fun hc _ => by exact y_move (.plain rfl)) rfl ?_
  refine st_g rfl rfl rfl SaysI.out (fun hc _ => by exact y_add (.opt rfl hc) (.opt rfl hc) (by first | omega | (simp; omega) | (simp at hc; omega) | (simp at hc ⊢; omega) | (simp; done))) rfl ?_
  refine st_g rfl rfl rfl SaysI.out (fun hc _ => by exact y_move (.plain rfl)) rfl ?_
  refine st_g rfl rfl rfl SaysI.out (fun hc _ => by exact y_add (.opt rfl hc) (.opt rfl hc) (by first | omega | (simp; omega) | (simp at hc; omega) | (simp at hc ⊢; omega) | (simp; done))) rfl ?_
  refine st_g rfl rfl rfl SaysI.out (fun hc _ => by exact y_move (.plain rfl)) rfl ?_
  refine st_g rfl rfl rfl SaysI.out (fun hc _ => by exact y_add (.opt rfl hc) (.opt rfl hc) (by first | omega | (simp; omega) | (simp at hc; omega) | (simp at hc ⊢; omega) | (simp; done))) rfl ?_
  refine st_g rfl rfl rfl SaysI.out (fun hc _ => by exact y_move (.plain rfl)) rfl ?_
  first | refine st_g rfl rfl rfl SaysI.out (fun hc _ => by exact y_lenN (.opt rfl hc)) rfl ?_ | refine st_g rfl rfl rfl SaysI.out (fun hc _ => by exact y_len (.opt rfl hc)) rfl ?_ | refine st_g rfl rfl rfl SaysI.out (fun hc _ => by exact y_lenArr (.opt rfl hc)) rfl ?_ | refine st_g rfl rfl rfl SaysI.out (fun hc _ => by exact y_strLen (by rfl) (.opt rfl hc)) rfl ?_
  refine st_g rfl rfl rfl SaysI.out (fun hc _ => by exact y_neq (.opt rfl hc) (.opt rfl hc)) rfl ?_
  refine st_p (fun _ => by exact y_or (.plain rfl) rfl rfl) rfl ?_
  refine aops_nil ?_
  refine awp_cond rfl (fun h1 => ?_) (fun h1 => ?_)
  · skip
    try simp only [decide_eq_true_eq, decide_eq_false_iff_not, Bool.not_eq_true', Bool.not_eq_false', Bool.not_eq_true, Bool.not_eq_false, List.length_map, Int.ofNat_lt, Int.ofNat_le, Bool.or_eq_true, Bool.and_eq_true, Bool.or_eq_false_iff, Bool.and_eq_false_iff] at h1
    refine awp_seq ?_
    refine awp_region ?_
    refine st_p (fun _ => by exact y_assign (.plain rfl)) rfl ?_
    refine aops_nil ?_
    refine awp_ret ?_
    refine retG (.inr rfl) (.cons (.tmp rfl) .nil) (VShift.of1 (AV.Imp.refl _) (.nil _)) ⟨congrArg (fun x : (Bool) => (AV.bool x)) (show _ = (Sv.children q s) from ?_), rfl⟩
    unfold Sv.children Sv.count
    rw [if_pos (by omega)]
  · skip
    try simp only [decide_eq_true_eq, decide_eq_false_iff_not, Bool.not_eq_true', Bool.not_eq_false', Bool.not_eq_true, Bool.not_eq_false, List.length_map, Int.ofNat_lt, Int.ofNat_le, Bool.or_eq_true, Bool.and_eq_true, Bool.or_eq_false_iff, Bool.and_eq_false_iff] at h1
    refine awp_skip ?_
    refine awp_seq ?_
    refine awp_seq ?_
    refine awp_region ?_
    refine st_p (fun _ => by exact y_move (.plain rfl)) rfl ?_
    refine aops_call (blt_lt rfl) (.plain rfl) (.cons (.plain rfl) (.cons (.imp (.plain rfl) Fun.imp) .nil)) (ACalls.here (containsFCs_c s.children hl 35 [] (fun c => !Sv.win c.starts 1 1099511627776) [] (fun z _ => starts_c z)) ?_)
    refine aops_nil ?_
    refine awp_cond rfl (fun h2 => ?_) (fun h2 => ?_)
    · skip
      try simp only [decide_eq_true_eq, decide_eq_false_iff_not, Bool.not_eq_true', Bool.not_eq_false', Bool.not_eq_true, Bool.not_eq_false, List.length_map, Int.ofNat_lt, Int.ofNat_le, Bool.or_eq_true, Bool.and_eq_true, Bool.or_eq_false_iff, Bool.and_eq_false_iff] at h2
      refine awp_seq ?_
      refine awp_region ?_
      refine st_p (fun _ => by exact y_assign (.plain rfl)) rfl ?_
      refine aops_nil ?_
      refine awp_ret ?_
      refine retG (.inr rfl) (.cons (.tmp rfl) .nil) (VShift.of1 (AV.Imp.refl _) (.nil _)) ⟨congrArg (fun x : (Bool) => (AV.bool x)) (show _ = (Sv.children q s) from ?_), rfl⟩
      unfold Sv.children Sv.count
      rw [if_neg (by omega), if_pos (by assumption)]
    · skip
      try simp only [decide_eq_true_eq, decide_eq_false_iff_not, Bool.not_eq_true', Bool.not_eq_false', Bool.not_eq_true, Bool.not_eq_false, List.length_map, Int.ofNat_lt, Int.ofNat_le, Bool.or_eq_true, Bool.and_eq_true, Bool.or_eq_false_iff, Bool.and_eq_false_iff] at h2
      refine awp_skip ?_
      refine awp_seq ?_
      refine awp_seq ?_
      refine awp_region ?_
      refine st_p (fun _ => by exact y_fieldPtr (.plain rfl)) rfl ?_
      refine st_p (fun _ => by exact y_load (.plain rfl) (by first | exact .here | exact k1 | exact k2 | exact k3 | exact k4 | exact k5 | exact k6 | exact k7 | exact k8 | exact k9 | exact k10 | exact k11 | exact k12 | exact k13) rfl) rfl ?_
      refine aops_nil ?_
      refine awp_block ?_
      refine awp_seq ?_
      refine awp_region ?_
      refine st_p (fun _ => by exact y_eql (.plain rfl) (.plain rfl)) rfl ?_
      refine st_p (fun _ => by exact y_assign (.plain rfl)) rfl ?_
      refine aops_nil ?_
      refine awp_cond rfl (fun h3 => ?_) (fun h3 => ?_)
      · skip
        try simp only [decide_eq_true_eq, decide_eq_false_iff_not, Bool.not_eq_true', Bool.not_eq_false', Bool.not_eq_true, Bool.not_eq_false, List.length_map, Int.ofNat_lt, Int.ofNat_le, Bool.or_eq_true, Bool.and_eq_true, Bool.or_eq_false_iff, Bool.and_eq_false_iff] at h3
        refine awp_seq ?_
        refine awp_region ?_
        refine st_p (fun _ => by exact y_move (.plain rfl)) rfl ?_
        refine st_p (fun _ => by exact y_move (.plain rfl)) rfl ?_
        refine st_p (fun _ => by exact y_add (.plain rfl) (.plain rfl) (by first | omega | (simp; omega) | (simp at hc; omega) | (simp at hc ⊢; omega) | (simp; done))) rfl ?_
        refine st_p (fun _ => by exact y_eql (.plain rfl) (.plain rfl)) rfl ?_
        refine st_p (fun _ => by exact y_assign (.plain rfl)) rfl ?_
        refine aops_nil ?_
        refine awp_ret ?_
        refine retG (.inr rfl) (.cons (.tmp rfl) .nil) (VShift.of1 (AV.Imp.refl _) (.nil _)) ⟨congrArg (fun x : (Bool) => (AV.bool x)) (show _ = (Sv.children q s) from ?_), rfl⟩
        unfold Sv.children Sv.count
        rw [if_neg (by omega), if_neg (by simp_all)]
        simp_all
      · skip
        try simp only [decide_eq_true_eq, decide_eq_false_iff_not, Bool.not_eq_true', Bool.not_eq_false', Bool.not_eq_true, Bool.not_eq_false, List.length_map, Int.ofNat_lt, Int.ofNat_le, Bool.or_eq_true, Bool.and_eq_true, Bool.or_eq_false_iff, Bool.and_eq_false_iff] at h3
        refine awp_seq ?_
        refine awp_region ?_
        refine st_p (fun _ => by exact y_eql (.plain rfl) (.plain rfl)) rfl ?_
        refine st_p (fun _ => by exact y_assign (.plain rfl)) rfl ?_
        refine aops_nil ?_
        refine awp_cond rfl (fun h4 => ?_) (fun h4 => ?_)
        · skip
          try simp only [decide_eq_true_eq, decide_eq_false_iff_not, Bool.not_eq_true', Bool.not_eq_false', Bool.not_eq_true, Bool.not_eq_false, List.length_map, Int.ofNat_lt, Int.ofNat_le, Bool.or_eq_true, Bool.and_eq_true, Bool.or_eq_false_iff, Bool.and_eq_false_iff] at h4
          refine awp_seq ?_
          refine awp_region ?_
          refine st_p (fun _ => by exact y_fieldPtr (.plain rfl)) rfl ?_
          refine st_p (fun _ => by exact y_load (.plain rfl) (by first | exact .here | exact k1 | exact k2 | exact k3 | exact k4 | exact k5 | exact k6 | exact k7 | exact k8 | exact k9 | exact k10 | exact k11 | exact k12 | exact k13) rfl) rfl ?_
          refine st_p (fun _ => by exact y_neq (.plain rfl) (.plain rfl)) rfl ?_
          refine st_p (fun _ => by exact y_move (.plain rfl)) rfl ?_
          refine st_g rfl rfl rfl SaysI.out (fun hc _ => by exact y_move (.plain rfl)) rfl ?_
          refine st_g rfl rfl rfl SaysI.out (fun hc _ => by exact y_gtr (.opt rfl hc) (.plain rfl)) rfl ?_
          refine st_p (fun _ => by exact y_and (.plain rfl) rfl rfl) rfl ?_
          refine st_p (fun _ => by exact y_move (.plain rfl)) rfl ?_
          refine st_g rfl rfl rfl SaysI.out (fun hc _ => by exact y_move (.plain rfl)) rfl ?_
          refine st_g rfl rfl rfl SaysI.out (fun hc _ => by exact y_gtr (.opt rfl hc) (.plain rfl)) rfl ?_
          refine st_p (fun _ => by exact y_and (.plain rfl) rfl rfl) rfl ?_
          refine st_p (fun _ => by exact y_assign (.plain rfl)) rfl ?_
          refine aops_nil ?_
          refine awp_ret ?_
          refine retG (.inr rfl) (.cons (.tmp rfl) .nil) (VShift.of1 (AV.Imp.refl _) (.nil _)) ⟨congrArg (fun x : (Bool) => (AV.bool x)) (show _ = (Sv.children q s) from ?_), rfl⟩
          unfold Sv.children Sv.count
          rw [if_neg (by omega), if_neg (by simp_all)]
          simp_all
        · skip
          try simp only [decide_eq_true_eq, decide_eq_false_iff_not, Bool.not_eq_true', Bool.not_eq_false', Bool.not_eq_true, Bool.not_eq_false, List.length_map, Int.ofNat_lt, Int.ofNat_le, Bool.or_eq_true, Bool.and_eq_true, Bool.or_eq_false_iff, Bool.and_eq_false_iff] at h4
          refine awp_seq ?_
          refine awp_region ?_
          refine st_p (fun _ => by exact y_eql (.plain rfl) (.plain rfl)) rfl ?_
          refine st_p (fun _ => by exact y_assign (.plain rfl)) rfl ?_
          refine aops_nil ?_
          refine awp_cond rfl (fun h5 => ?_) (fun h5 => ?_)
          · skip
            try simp only [decide_eq_true_eq, decide_eq_false_iff_not, Bool.not_eq_true', Bool.not_eq_false', Bool.not_eq_true, Bool.not_eq_false, List.length_map, Int.ofNat_lt, Int.ofNat_le, Bool.or_eq_true, Bool.and_eq_true, Bool.or_eq_false_iff, Bool.and_eq_false_iff] at h5
            refine awp_seq ?_
            refine awp_region ?_
            refine st_p (fun _ => by exact y_move (.plain rfl)) rfl ?_
            refine st_p (fun _ => by exact y_gtr (.plain rfl) (.plain rfl)) rfl ?_
            refine st_p (fun _ => by exact y_move (.plain rfl)) rfl ?_
            refine st_g rfl rfl rfl SaysI.out (fun hc _ => by exact y_move (.plain rfl)) rfl ?_
            refine st_g rfl rfl rfl SaysI.out (fun hc _ => by exact y_move (.plain rfl)) rfl ?_
            refine st_g rfl rfl rfl SaysI.out (fun hc _ => by exact y_add (.opt rfl hc) (.opt rfl hc) (by first | omega | (simp; omega) | (simp at hc; omega) | (simp at hc ⊢; omega) | (simp; done))) rfl ?_
            refine st_g rfl rfl rfl SaysI.out (fun hc _ => by exact y_eql (.opt rfl hc) (.plain rfl)) rfl ?_
            refine st_p (fun _ => by exact y_and (.plain rfl) rfl rfl) rfl ?_
            refine st_p (fun _ => by exact y_assign (.plain rfl)) rfl ?_
            refine aops_nil ?_
            refine awp_ret ?_
            refine retG (.inr rfl) (.cons (.tmp rfl) .nil) (VShift.of1 (AV.Imp.refl _) (.nil _)) ⟨congrArg (fun x : (Bool) => (AV.bool x)) (show _ = (Sv.children q s) from ?_), rfl⟩
            unfold Sv.children Sv.count
            rw [if_neg (by omega), if_neg (by simp_all)]
            simp_all
          · skip
            try simp only [decide_eq_true_eq, decide_eq_false_iff_not, Bool.not_eq_true', Bool.not_eq_false', Bool.not_eq_true, Bool.not_eq_false, List.length_map, Int.ofNat_lt, Int.ofNat_le, Bool.or_eq_true, Bool.and_eq_true, Bool.or_eq_false_iff, Bool.and_eq_false_iff] at h5
            refine awp_seq ?_
            refine awp_region ?_
            refine st_p (fun _ => by exact y_eql (.plain rfl) (.plain rfl)) rfl ?_
            refine st_p (fun _ => by exact y_assign (.plain rfl)) rfl ?_
            refine aops_nil ?_
            refine awp_cond rfl (fun h6 => ?_) (fun h6 => ?_)
            · skip
              try simp only [decide_eq_true_eq, decide_eq_false_iff_not, Bool.not_eq_true', Bool.not_eq_false', Bool.not_eq_true, Bool.not_eq_false, List.length_map, Int.ofNat_lt, Int.ofNat_le, Bool.or_eq_true, Bool.and_eq_true, Bool.or_eq_false_iff, Bool.and_eq_false_iff] at h6
              refine awp_seq ?_
              refine awp_region ?_
              refine st_p (fun _ => by exact y_move (.plain rfl)) rfl ?_
              refine st_p (fun _ => by exact y_move (.plain rfl)) rfl ?_
              first | refine st_p (fun _ => by exact y_lenN (.plain rfl)) rfl ?_ | refine st_p (fun _ => by exact y_len (.plain rfl)) rfl ?_ | refine st_p (fun _ => by exact y_lenArr (.plain rfl)) rfl ?_ | refine st_p (fun _ => by exact y_strLen (by rfl) (.plain rfl)) rfl ?_
              refine st_p (fun _ => by exact y_eql (.plain rfl) (.plain rfl)) rfl ?_
              refine st_p (fun _ => by exact y_assign (.plain rfl)) rfl ?_
              refine aops_nil ?_
              refine awp_ret ?_
              refine retG (.inr rfl) (.cons (.tmp rfl) .nil) (VShift.of1 (AV.Imp.refl _) (.nil _)) ⟨congrArg (fun x : (Bool) => (AV.bool x)) (show _ = (Sv.children q s) from ?_), rfl⟩
              unfold Sv.children Sv.count
              rw [if_neg (by omega), if_neg (by simp_all)]
              simp_all
            · skip
              try simp only [decide_eq_true_eq, decide_eq_false_iff_not, Bool.not_eq_true', Bool.not_eq_false', Bool.not_eq_true, Bool.not_eq_false, List.length_map, Int.ofNat_lt, Int.ofNat_le, Bool.or_eq_true, Bool.and_eq_true, Bool.or_eq_false_iff, Bool.and_eq_false_iff] at h6
              refine awp_skip ?_
              refine awp_seq ?_
              refine awp_region ?_
              refine st_p (fun _ => by exact y_assign (.plain rfl)) rfl ?_
              refine aops_nil ?_
              refine awp_ret ?_
              refine retG (.inr rfl) (.cons (.tmp rfl) .nil) (VShift.of1 (AV.Imp.refl _) (.nil _)) ⟨congrArg (fun x : (Bool) => (AV.bool x)) (show _ = (Sv.children q s) from ?_), rfl⟩
              unfold Sv.children Sv.count
              rw [if_neg (by omega), if_neg (by simp_all)]
              simp_all

theorem restarts_c (q : Sv.Spc) (l : List Int) (hl : l.length ≤ 1000000) (hw : 0 ≤ q.window ∧ q.window ≤ 1099511627776) (ht : ∀ t ∈ l, 0 ≤ t ∧ t ≤ 1099511627776) : ACalls Try.prog 27 [(AV.agg (encSp q)), (AV.sl 1 (List.map encI l))] [] (fun v st => v = (AV.bool (Sv.restarts q l)) ∧ st = []) := by
  refine acalls_body Try.func27 (by kernel_rfl) rfl Try.ntmps27 (le_ rfl) ?_
  rw [Try.results27]
  refine awp_seq ?_
  refine awp_region ?_
  refine st_n (fun _ => by exact y_box (.plain rfl)) rfl fun n1 => ?_
  refine st_p (fun _ => by exact y_assign (.plain rfl)) rfl ?_
  refine aops_nil ?_
  refine awp_seq ?_
  refine awp_seq ?_
  refine awp_region ?_
  refine st_p (fun _ => by exact y_move (.plain rfl)) rfl ?_
  first | refine st_p (fun _ => by exact y_lenN (.plain rfl)) rfl ?_ | refine st_p (fun _ => by exact y_len (.plain rfl)) rfl ?_ | refine st_p (fun _ => by exact y_lenArr (.plain rfl)) rfl ?_ | refine st_p (fun _ => by exact y_strLen (by rfl) (.plain rfl)) rfl ?_
  refine st_p (fun _ => by exact y_move (.plain rfl)) rfl ?_
  refine aops_nil ?_
  refine awp_block ?_
  refine awp_loop2 (X := Nat) [1, 2, 7, 8] (.cons rfl (.cons rfl (.cons rfl (.cons rfl .nil)))) (fun σ x => ((9, .int (x : Int)) : Nat × AV) :: σ) (fun R x => .cells n1 (encSp q) :: R) (fun x => x ≤ l.length ∧ (∀ i, i < x → Sv.okR q l i = true)) (fun x => l.length - x) 0 (by exact Weak.of2 (by (repeat (first | exact .nil _ | refine .cons rfl (by first | exact AV.Imp.refl _ | exact Sl.imp | exact AV.Imp.agg RowOf.imp | exact AV.Imp.grow_sl | exact AV.Imp.nil_grow | exact AV.Imp.full_grow | exact AV.Imp.own_grow | exact AV.Imp.grow_of rfl | exact AV.Imp.sl_of rfl | exact AV.Imp.int_of (by omega) | exact AV.Imp.of_eq (by first | omega | simpa)) ?_)); done) (by (repeat (first | exact .refl _ | exact .nil _ | apply ItLe2.cons (by first | exact .here | exact k1 | exact k2 | exact k3 | exact k4 | exact k5 | exact k6 | exact k7 | exact k8 | exact k9 | exact k10 | exact k11 | exact k12 | exact k13) | apply ItLe2.cells (by first | exact .here | exact k1 | exact k2 | exact k3 | exact k4 | exact k5 | exact k6 | exact k7 | exact k8 | exact k9 | exact k10 | exact k11 | exact k12 | exact k13) (by repeat (first | exact .nil | refine .cons (by first | exact AV.Imp.refl _ | exact Sl.imp | exact AV.Imp.agg RowOf.imp | exact AV.Imp.grow_sl | exact AV.Imp.nil_grow | exact AV.Imp.full_grow | exact AV.Imp.own_grow | exact AV.Imp.grow_of rfl | exact AV.Imp.sl_of rfl | exact AV.Imp.int_of (by omega) | exact AV.Imp.of_eq (by first | omega | simpa)) ?_)) | apply ItLe2.tail0)); done)) ⟨Nat.zero_le _, by omega⟩ ?_
  rintro k ⟨hk, hinv⟩
  refine awp_seq ?_
  refine awp_region ?_
  refine st_p (fun _ => by exact y_lss (.plain rfl) (.plain rfl)) rfl ?_
  refine aops_nil ?_
  refine awp_seq ?_
  refine awp_cond rfl (fun h1 => ?_) (fun h1 => ?_)
  · skip
    try simp only [decide_eq_true_eq, decide_eq_false_iff_not, Bool.not_eq_true', Bool.not_eq_false', Bool.not_eq_true, Bool.not_eq_false, List.length_map, Int.ofNat_lt, Int.ofNat_le, Bool.or_eq_true, Bool.and_eq_true, Bool.or_eq_false_iff, Bool.and_eq_false_iff] at h1
    refine awp_skip ?_
    refine awp_seq ?_
    refine awp_block ?_
    refine awp_seq ?_
    refine awp_region ?_
    refine st_p (fun _ => by exact y_move (.plain rfl)) rfl ?_
    first | refine st_p (fun _ => by exact y_indexMap (.plain rfl) (.plain rfl) rfl (by refine ⟨?_, ?_⟩; (first | omega | (simp; omega) | (simp at hc; omega) | (simp at hc ⊢; omega) | (simp; done)); rfl)) rfl ?_ | refine st_p (fun _ => by exact y_indexT (.plain rfl) (.plain rfl) (by first | omega | (simp; omega) | (simp at hc; omega) | (simp at hc ⊢; omega) | (simp; done)) (by first | omega | (simp; omega) | (simp at hc; omega) | (simp at hc ⊢; omega) | (simp; done))) rfl ?_ | refine st_p (fun _ => by exact y_index (.plain rfl) (.plain rfl) (by omega) rfl) rfl ?_ | refine st_p (fun _ => by exact y_indexArr (.plain rfl) (.plain rfl) rfl (by first | omega | (simp; omega) | (simp at hc; omega) | (simp at hc ⊢; omega) | (simp; done))) rfl ?_
    refine st_p (fun _ => by exact y_loadE (.plain rfl) rfl) rfl ?_
    refine st_p (fun _ => by exact y_assign (.plain rfl)) rfl ?_
    refine st_p (fun _ => by exact y_assign (.plain rfl)) rfl ?_
    refine aops_nil ?_
    refine awp_seq ?_
    have hkl : k < l.length := by assumption
    have htl : ∀ m : Nat, m < l.length → 0 ≤ l.getD m default ∧ l.getD m default ≤ 1099511627776 := fun m hm => by
      rw [List.getD, List.getElem?_eq_getElem hm, Option.getD_some]; exact ht _ (List.getElem_mem hm)
    have hlt := htl ((l.length : Int) - 1).toNat (by omega)
    refine awp_any0 (ks := [.free, .free, .free, .free, .free, .free, .free, .free, .free, .free, .free, .free, .free, .free, .free, .free, .free, .free, .free, .free, .free, .free, .free, .free, .free, .free, .free, .free, .free]) (by kernel_rfl) (fun K => ?_) ?_
    · skip
      refine dr_p (fun _ => by exact y_move (.plain rfl)) rfl ?_
      refine dr_p (fun _ => by exact y_call (.plain rfl) (.cons (.plain rfl) (.cons (.plain rfl) (.cons (.plain rfl) .nil))) (ACalls.pure (within_c _ _ _))) rfl ?_
      refine dr_p (fun _ => by exact y_not (.plain rfl)) rfl ?_
      refine dr_p (fun _ => by exact y_move (.plain rfl)) rfl ?_
      refine dr_g rfl rfl rfl SaysI.out (fun hc _ => by exact y_move (.plain rfl)) rfl ?_
      refine dr_g rfl rfl rfl SaysI.out (fun hc _ => by exact y_gtr (.opt rfl hc) (.plain rfl)) rfl ?_
      refine dr_g rfl rfl rfl SaysI.out (fun hc _ => by exact y_move (.opt rfl hc)) rfl ?_
      refine dr_g rfl rfl rfl SaysI.out (fun hc _ => by exact y_move (.plain rfl)) rfl ?_
      refine dr_g rfl rfl rfl SaysI.out (fun hc _ => by exact y_move (.plain rfl)) rfl ?_
      refine dr_g rfl rfl rfl SaysI.out (fun hc _ => by exact y_sub (.opt rfl hc) (.plain rfl) (by first | omega | (simp; omega) | (simp at hc; omega) | (simp at hc ⊢; omega) | (simp; done))) rfl ?_
      first | refine dr_g rfl rfl rfl SaysI.out (fun hc _ => by exact y_indexMap (.opt rfl hc) (.opt rfl hc) rfl (by refine ⟨?_, ?_⟩; (first | omega | (simp; omega) | (simp at hc; omega) | (simp at hc ⊢; omega) | (simp; done)); rfl)) rfl ?_ | refine dr_g rfl rfl rfl SaysI.out (fun hc _ => by exact y_indexT (.opt rfl hc) (.opt rfl hc) (by first | omega | (simp; omega) | (simp at hc; omega) | (simp at hc ⊢; omega) | (simp; done)) (by first | omega | (simp; omega) | (simp at hc; omega) | (simp at hc ⊢; omega) | (simp; done))) rfl ?_ | refine dr_g rfl rfl rfl SaysI.out (fun hc _ => by exact y_index (.opt rfl hc) (.opt rfl hc) (by omega) rfl) rfl ?_ | refine dr_g rfl rfl rfl SaysI.out (fun hc _ => by exact y_indexArr (.opt rfl hc) (.opt rfl hc) rfl (by first | omega | (simp; omega) | (simp at hc; omega) | (simp at hc ⊢; omega) | (simp; done))) rfl ?_
      refine dr_g rfl rfl rfl SaysI.out (fun hc _ => by exact y_loadE (.opt rfl hc) rfl) rfl ?_
      refine dr_g rfl rfl rfl SaysI.out (fun hc _ => by exact y_move (.plain rfl)) rfl ?_
      refine dr_g rfl rfl rfl SaysI.out (fun hc _ => by exact y_gtr (.opt rfl hc) (.opt rfl hc)) rfl ?_
      first | refine dr_g rfl rfl rfl SaysI.out (fun hc _ => by exact y_and' hc (.opt rfl hc) rfl rfl) rfl ?_ | refine dr_g rfl rfl rfl SaysI.out (fun hc _ => by exact y_and (.opt rfl hc) rfl rfl) rfl ?_
      refine dr_p (fun _ => by exact y_or (.plain rfl) rfl rfl) rfl ?_
      refine dr_p (fun _ => by exact y_move (.plain rfl)) rfl ?_
      refine dr_g rfl rfl rfl SaysI.out (fun hc _ => by exact y_move (.plain rfl)) rfl ?_
      refine dr_g rfl rfl rfl SaysI.out (fun hc _ => by exact y_move (.plain rfl)) rfl ?_
      refine dr_g rfl rfl rfl SaysI.out (fun hc _ => by exact y_move (.plain rfl)) rfl ?_
      first | refine dr_g rfl rfl rfl SaysI.out (fun hc _ => by exact y_lenN (.opt rfl hc)) rfl ?_ | refine dr_g rfl rfl rfl SaysI.out (fun hc _ => by exact y_len (.opt rfl hc)) rfl ?_ | refine dr_g rfl rfl rfl SaysI.out (fun hc _ => by exact y_lenArr (.opt rfl hc)) rfl ?_ | refine dr_g rfl rfl rfl SaysI.out (fun hc _ => by exact y_strLen (by rfl) (.opt rfl hc)) rfl ?_
      refine dr_g rfl rfl rfl SaysI.out (fun hc _ => by exact y_sub (.opt rfl hc) (.plain rfl) (by first | omega | (simp; omega) | (simp at hc; omega) | (simp at hc ⊢; omega) | (simp; done))) rfl ?_
      first | refine dr_g rfl rfl rfl SaysI.out (fun hc _ => by exact y_indexMap (.opt rfl hc) (.opt rfl hc) rfl (by refine ⟨?_, ?_⟩; (first | omega | (simp; omega) | (simp at hc; omega) | (simp at hc ⊢; omega) | (simp; done)); rfl)) rfl ?_ | refine dr_g rfl rfl rfl SaysI.out (fun hc _ => by exact y_indexT (.opt rfl hc) (.opt rfl hc) (by first | omega | (simp; omega) | (simp at hc; omega) | (simp at hc ⊢; omega) | (simp; done)) (by first | omega | (simp; omega) | (simp at hc; omega) | (simp at hc ⊢; omega) | (simp; done))) rfl ?_ | refine dr_g rfl rfl rfl SaysI.out (fun hc _ => by exact y_index (.opt rfl hc) (.opt rfl hc) (by omega) rfl) rfl ?_ | refine dr_g rfl rfl rfl SaysI.out (fun hc _ => by exact y_indexArr (.opt rfl hc) (.opt rfl hc) rfl (by first | omega | (simp; omega) | (simp at hc; omega) | (simp at hc ⊢; omega) | (simp; done))) rfl ?_
      refine dr_g rfl rfl rfl SaysI.out (fun hc _ => by exact y_loadE (.opt rfl hc) rfl) rfl ?_
      refine dr_g rfl rfl rfl SaysI.out (fun hc _ => by exact y_fieldPtr (.plain rfl)) rfl ?_
      refine dr_g rfl rfl rfl SaysI.out (fun hc _ => by exact y_load (.opt rfl hc) (by first | exact .here | exact k1 | exact k2 | exact k3 | exact k4 | exact k5 | exact k6 | exact k7 | exact k8 | exact k9 | exact k10 | exact k11 | exact k12 | exact k13) rfl) rfl ?_
      refine dr_g rfl rfl rfl SaysI.out (fun hc _ => by exact y_sub (.opt rfl hc) (.opt rfl hc) (by first | omega | (simp; omega) | (simp at hc; omega) | (simp at hc ⊢; omega) | (simp; done))) rfl ?_
      refine dr_g rfl rfl rfl SaysI.out (fun hc _ => by exact y_leq (.opt rfl hc) (.opt rfl hc)) rfl ?_
      refine dr_p (fun _ => by exact y_or (.plain rfl) rfl rfl) rfl ?_
      refine dr_nil ⟨rfl, ?_⟩
      refine awp_cond rfl (fun h2 => ?_) (fun h2 => ?_)
      · skip
        try simp only [decide_eq_true_eq, decide_eq_false_iff_not, Bool.not_eq_true', Bool.not_eq_false', Bool.not_eq_true, Bool.not_eq_false, List.length_map, Int.ofNat_lt, Int.ofNat_le, Bool.or_eq_true, Bool.and_eq_true, Bool.or_eq_false_iff, Bool.and_eq_false_iff] at h2
        have hok : Sv.okR q l k = false := by
          rw [Bool.eq_false_iff, ne_eq, Sv.okR_iff (by assumption)]
          rintro ⟨a, b, c⟩
          rcases h2 with (h | h) | h
          · first | (rw [a] at h; cases h) | (simp [a] at h)
          · omega
          · omega
        refine awp_seq ?_
        refine awp_region ?_
        refine st_p (fun _ => by exact y_assign (.plain rfl)) rfl ?_
        refine aops_nil ?_
        refine awp_ret ?_
        refine retG (.inr rfl) (.cons (.tmp rfl) .nil) (VShift.of1 (AV.Imp.refl _) (.nil _)) ⟨congrArg (fun x : (Bool) => (AV.bool x)) (show _ = (Sv.restarts q l) from ?_), rfl⟩
        rw [Sv.restarts_bad (by assumption) hok]
      · skip
        try simp only [decide_eq_true_eq, decide_eq_false_iff_not, Bool.not_eq_true', Bool.not_eq_false', Bool.not_eq_true, Bool.not_eq_false, List.length_map, Int.ofNat_lt, Int.ofNat_le, Bool.or_eq_true, Bool.and_eq_true, Bool.or_eq_false_iff, Bool.and_eq_false_iff] at h2
        have hok : Sv.okR q l k = true := by
          rw [Sv.okR_iff (by assumption)]
          obtain ⟨⟨h1, h2⟩, h3⟩ := h2
          refine ⟨by simpa using h1, ?_, by omega⟩
          omega
        refine awp_skip ?_
        refine awp_region ?_
        refine st_p (fun _ => by exact y_add (.plain rfl) (.plain rfl) (by first | omega | (simp; omega) | (simp at hc; omega) | (simp at hc ⊢; omega) | (simp; done))) rfl ?_
        refine st_p (fun _ => by exact y_move (.plain rfl)) rfl ?_
        refine aops_nil ?_
        refine ⟨k + 1, ?_, ?_, Weak.of2 (by (repeat (first | exact .nil _ | refine .cons rfl (by first | exact AV.Imp.refl _ | exact Sl.imp | exact AV.Imp.agg RowOf.imp | exact AV.Imp.grow_sl | exact AV.Imp.nil_grow | exact AV.Imp.full_grow | exact AV.Imp.own_grow | exact AV.Imp.grow_of rfl | exact AV.Imp.sl_of rfl | exact AV.Imp.int_of (by omega) | exact AV.Imp.of_eq (by first | omega | simpa)) ?_)); done) (by (repeat (first | exact .refl _ | exact .nil _ | apply ItLe2.cons (by first | exact .here | exact k1 | exact k2 | exact k3 | exact k4 | exact k5 | exact k6 | exact k7 | exact k8 | exact k9 | exact k10 | exact k11 | exact k12 | exact k13) | apply ItLe2.cells (by first | exact .here | exact k1 | exact k2 | exact k3 | exact k4 | exact k5 | exact k6 | exact k7 | exact k8 | exact k9 | exact k10 | exact k11 | exact k12 | exact k13) (by repeat (first | exact .nil | refine .cons (by first | exact AV.Imp.refl _ | exact Sl.imp | exact AV.Imp.agg RowOf.imp | exact AV.Imp.grow_sl | exact AV.Imp.nil_grow | exact AV.Imp.full_grow | exact AV.Imp.own_grow | exact AV.Imp.grow_of rfl | exact AV.Imp.sl_of rfl | exact AV.Imp.int_of (by omega) | exact AV.Imp.of_eq (by first | omega | simpa)) ?_)) | apply ItLe2.tail0)); done)⟩
        · refine ⟨by omega, ?_⟩
          intro i hik
          by_cases e : i = k
          · subst e; exact hok
          · exact hinv i (by omega)
        · omega
    · kernel_rfl
  · skip
    try simp only [decide_eq_true_eq, decide_eq_false_iff_not, Bool.not_eq_true', Bool.not_eq_false', Bool.not_eq_true, Bool.not_eq_false, List.length_map, Int.ofNat_lt, Int.ofNat_le, Bool.or_eq_true, Bool.and_eq_true, Bool.or_eq_false_iff, Bool.and_eq_false_iff] at h1
    refine awp_exit ?_
    refine awp_seq ?_
    refine awp_region ?_
    refine st_p (fun _ => by exact y_move (.plain rfl)) rfl ?_
    first | refine st_p (fun _ => by exact y_lenN (.plain rfl)) rfl ?_ | refine st_p (fun _ => by exact y_len (.plain rfl)) rfl ?_ | refine st_p (fun _ => by exact y_lenArr (.plain rfl)) rfl ?_ | refine st_p (fun _ => by exact y_strLen (by rfl) (.plain rfl)) rfl ?_
    refine st_p (fun _ => by exact y_fieldPtr (.plain rfl)) rfl ?_
    refine st_p (fun _ => by exact y_load (.plain rfl) (by first | exact .here | exact k1 | exact k2 | exact k3 | exact k4 | exact k5 | exact k6 | exact k7 | exact k8 | exact k9 | exact k10 | exact k11 | exact k12 | exact k13) rfl) rfl ?_
    refine st_p (fun _ => by exact y_leq (.plain rfl) (.plain rfl)) rfl ?_
    refine st_p (fun _ => by exact y_assign (.plain rfl)) rfl ?_
    refine aops_nil ?_
    refine awp_ret ?_
    refine retG (.inr rfl) (.cons (.tmp rfl) .nil) (VShift.of1 (AV.Imp.refl _) (.nil _)) ⟨congrArg (fun x : (Bool) => (AV.bool x)) (show _ = (Sv.restarts q l) from ?_), rfl⟩
    rw [Sv.restarts_good (fun i hi => hinv i (by omega))]

theorem valid_c (q : Sv.Spc) (s : Sv.Ss) (hl : q.children.length ≤ 1000000) (hz : ∀ c ∈ q.children, c.name.size ≤ 1000000) (hsl : s.children.length ≤ 1000000) (hrl : s.restarts.length ≤ 1000000) (hw : 0 ≤ q.window ∧ q.window ≤ 1099511627776) (ht : ∀ t ∈ s.restarts, 0 ≤ t ∧ t ≤ 1099511627776) : ACalls Try.prog 17 [(AV.agg (encSp q)), (AV.agg (encSs s))] [] (fun v st => v = (AV.int (Sv.valid q s)) ∧ st = []) := by
  refine acalls_body Try.func17 (by kernel_rfl) rfl Try.ntmps17 (le_ rfl) ?_
  rw [Try.results17]
  refine awp_seq ?_
  refine awp_region ?_
  refine st_n (fun _ => by exact y_box (.plain rfl)) rfl fun n1 => ?_
  refine st_n (fun _ => by exact y_box (.plain rfl)) rfl fun n2 => ?_
  refine st_p (fun _ => by exact y_assign (.plain rfl)) rfl ?_
  refine aops_nil ?_
  refine awp_seq ?_
  refine awp_region ?_
  refine st_p (fun _ => by exact y_fieldPtr (.plain rfl)) rfl ?_
  refine st_p (fun _ => by exact y_load (.plain rfl) (by first | exact .here | exact k1 | exact k2 | exact k3 | exact k4 | exact k5 | exact k6 | exact k7 | exact k8 | exact k9 | exact k10 | exact k11 | exact k12 | exact k13) rfl) rfl ?_
  refine st_p (fun _ => by exact y_eql (.plain rfl) (.plain rfl)) rfl ?_
  refine st_p (fun _ => by exact y_move (.plain rfl)) rfl ?_
  refine st_g rfl rfl rfl SaysI.out (fun hc _ => by exact y_fieldPtr (.plain rfl)) rfl ?_
  refine st_g rfl rfl rfl SaysI.out (fun hc _ => by exact y_load (.opt rfl hc) (by first | exact .here | exact k1 | exact k2 | exact k3 | exact k4 | exact k5 | exact k6 | exact k7 | exact k8 | exact k9 | exact k10 | exact k11 | exact k12 | exact k13) rfl) rfl ?_
  refine st_g rfl rfl rfl SaysI.out (fun hc _ => by exact y_eql (.opt rfl hc) (.plain rfl)) rfl ?_
  refine st_p (fun _ => by exact y_or (.plain rfl) rfl rfl) rfl ?_
  refine st_p (fun _ => by exact y_assign (.plain rfl)) rfl ?_
  refine aops_nil ?_
  refine awp_seq ?_
  refine awp_seq ?_
  refine awp_region ?_
  refine st_p (fun _ => by exact y_loadW (.plain rfl) (by first | exact .here | exact k1 | exact k2 | exact k3 | exact k4 | exact k5 | exact k6 | exact k7 | exact k8 | exact k9 | exact k10 | exact k11 | exact k12 | exact k13) (by rfl)) rfl ?_
  refine aops_call (blt_lt rfl) (.plain rfl) (.cons (.imp (.plain rfl) (AV.Imp.agg (RowOf.imp (enc := encSp)))) .nil) (ACalls.here (check_c _ (by first | assumption | omega | (simp; omega) | (simp; done) | decide +kernel | (simp_all; omega)) (by first | assumption | omega | (simp; omega) | (simp; done) | decide +kernel | (simp_all; omega))) ?_)
  refine st_p (fun _ => by exact y_neq (.plain rfl) (.plain rfl)) rfl ?_
  refine st_p (fun _ => by exact y_move (.plain rfl)) rfl ?_
  refine st_g rfl rfl rfl SaysI.out (fun hc _ => by exact y_loadW (.plain rfl) (by first | exact .here | exact k1 | exact k2 | exact k3 | exact k4 | exact k5 | exact k6 | exact k7 | exact k8 | exact k9 | exact k10 | exact k11 | exact k12 | exact k13) (by rfl)) rfl ?_
  refine st_g rfl rfl rfl SaysI.out (fun hc _ => by exact y_loadW (.plain rfl) (by first | exact .here | exact k1 | exact k2 | exact k3 | exact k4 | exact k5 | exact k6 | exact k7 | exact k8 | exact k9 | exact k10 | exact k11 | exact k12 | exact k13) (by rfl)) rfl ?_
  refine st_g rfl rfl rfl SaysI.out (fun hc _ => by exact y_call (.plain rfl) (.cons (.imp (.opt rfl hc) (AV.Imp.agg (RowOf.imp (enc := encSp)))) (.cons (.imp (.opt rfl hc) (AV.Imp.agg (RowOf.imp (enc := encSs)))) .nil)) (ACalls.pure (children_c _ _ (by first | assumption | omega | (simp; omega) | (simp; done) | decide +kernel | (simp_all; omega))))) rfl ?_
  refine st_g rfl rfl rfl SaysI.out (fun hc _ => by exact y_not (.opt rfl hc)) rfl ?_
  refine st_p (fun _ => by exact y_or (.plain rfl) rfl rfl) rfl ?_
  refine st_p (fun _ => by exact y_move (.plain rfl)) rfl ?_
  refine st_g rfl rfl rfl SaysI.out (fun hc _ => by exact y_loadW (.plain rfl) (by first | exact .here | exact k1 | exact k2 | exact k3 | exact k4 | exact k5 | exact k6 | exact k7 | exact k8 | exact k9 | exact k10 | exact k11 | exact k12 | exact k13) (by rfl)) rfl ?_
  refine st_g rfl rfl rfl SaysI.out (fun hc _ => by exact y_fieldPtr (.plain rfl)) rfl ?_
  refine st_g rfl rfl rfl SaysI.out (fun hc _ => by exact y_load (.opt rfl hc) (by first | exact .here | exact k1 | exact k2 | exact k3 | exact k4 | exact k5 | exact k6 | exact k7 | exact k8 | exact k9 | exact k10 | exact k11 | exact k12 | exact k13) rfl) rfl ?_
  refine st_g rfl rfl rfl SaysI.out (fun hc _ => by exact y_call (.plain rfl) (.cons (.imp (.opt rfl hc) (AV.Imp.agg (RowOf.imp (enc := encSp)))) (.cons (.imp (.opt rfl hc) (Sl.imp (enc := encI))) .nil)) (ACalls.pure (restarts_c _ _ (by first | assumption | omega | (simp; omega) | (simp; done) | decide +kernel | (simp_all; omega)) (by first | assumption | omega | (simp; omega) | (simp; done) | decide +kernel | (simp_all; omega)) (by first | assumption | omega | (simp; omega) | (simp; done) | decide +kernel | (simp_all; omega))))) rfl ?_
  refine st_g rfl rfl rfl SaysI.out (fun hc _ => by exact y_not (.opt rfl hc)) rfl ?_
  refine st_p (fun _ => by exact y_or (.plain rfl) rfl rfl) rfl ?_
  refine st_p (fun _ => by exact y_move (.plain rfl)) rfl ?_
  refine st_g rfl rfl rfl SaysI.out (fun hc _ => by exact y_fieldPtr (.plain rfl)) rfl ?_
  refine st_g rfl rfl rfl SaysI.out (fun hc _ => by exact y_load (.opt rfl hc) (by first | exact .here | exact k1 | exact k2 | exact k3 | exact k4 | exact k5 | exact k6 | exact k7 | exact k8 | exact k9 | exact k10 | exact k11 | exact k12 | exact k13) rfl) rfl ?_
  refine st_g rfl rfl rfl SaysI.out (fun hc _ => by exact y_move (.opt rfl hc)) rfl ?_
  refine st_g rfl rfl rfl SaysI.out (fun hc _ => by exact y_move (.plain rfl)) rfl ?_
  refine st_g rfl rfl rfl SaysI.out (fun hc _ => by exact y_not (.opt rfl hc)) rfl ?_
  first | refine st_g rfl rfl rfl SaysI.out (fun hc _ => by exact y_and' hc (.opt rfl hc) rfl rfl) rfl ?_ | refine st_g rfl rfl rfl SaysI.out (fun hc _ => by exact y_and (.opt rfl hc) rfl rfl) rfl ?_
  refine st_p (fun _ => by exact y_or (.plain rfl) rfl rfl) rfl ?_
  refine aops_nil ?_
  refine awp_cond rfl (fun h1 => ?_) (fun h1 => ?_)
  · skip
    try simp only [decide_eq_true_eq, decide_eq_false_iff_not, Bool.not_eq_true', Bool.not_eq_false', Bool.not_eq_true, Bool.not_eq_false, List.length_map, Int.ofNat_lt, Int.ofNat_le, Bool.or_eq_true, Bool.and_eq_true, Bool.or_eq_false_iff, Bool.and_eq_false_iff] at h1
    refine awp_seq ?_
    refine awp_region ?_
    refine st_p (fun _ => by exact y_assign (.plain rfl)) rfl ?_
    refine aops_nil ?_
    refine awp_ret ?_
    refine retG (.inr rfl) (.cons (.tmp rfl) .nil) (VShift.of1 (AV.Imp.refl _) (.nil _)) ⟨congrArg (fun x : (Int) => (AV.int x)) (show _ = (Sv.valid q s) from ?_), rfl⟩
    rw [Sv.valid, if_pos]
    rcases h1 with ((h | h) | h) | h
    · exact .inl h
    · exact .inr (.inl h)
    · exact .inr (.inr (.inl h))
    · exact .inr (.inr (.inr h))
  · skip
    try simp only [decide_eq_true_eq, decide_eq_false_iff_not, Bool.not_eq_true', Bool.not_eq_false', Bool.not_eq_true, Bool.not_eq_false, List.length_map, Int.ofNat_lt, Int.ofNat_le, Bool.or_eq_true, Bool.and_eq_true, Bool.or_eq_false_iff, Bool.and_eq_false_iff] at h1
    refine awp_skip ?_
    refine awp_seq ?_
    refine awp_region ?_
    refine st_p (fun _ => by exact y_assign (.plain rfl)) rfl ?_
    refine aops_nil ?_
    refine awp_ret ?_
    refine retG (.inr rfl) (.cons (.tmp rfl) .nil) (VShift.of1 (AV.Imp.refl _) (.nil _)) ⟨congrArg (fun x : (Int) => (AV.int x)) (show _ = (Sv.valid q s) from ?_), rfl⟩
    rw [Sv.valid, if_neg]
    obtain ⟨⟨⟨a, b⟩, c⟩, e⟩ := h1
    rintro (h | h | h | ⟨h, h2, h3⟩)
    · exact h a
    · rw [b] at h; cases h
    · rw [c] at h; cases h
    · rcases e with e | e | e
      · rw [e] at h; cases h
      · exact h2 e
      · exact h3 e

theorem new_c (q : Sv.Spc) (hl : q.children.length ≤ 1000000) (hz : ∀ c ∈ q.children, c.name.size ≤ 1000000) : ACalls Try.prog 12 [(AV.agg (encSp q))] [] (fun v st => v = (AV.tup [(AV.agg (encSs ((Sv.new q).1))), (AV.sl 4 (List.map encEv ((Sv.new q).2.1))), (AV.int ((Sv.new q).2.2))]) ∧ st = []) := by
  refine acalls_body Try.func12 (by kernel_rfl) rfl Try.ntmps12 (le_ rfl) ?_
  rw [Try.results12]
  refine awp_seq ?_
  refine awp_region ?_
  refine st_n (fun _ => by exact y_box (.plain rfl)) rfl fun n1 => ?_
  refine st_n (fun _ => by exact y_alloc) rfl fun n2 => ?_
  refine st_p (fun _ => by exact y_assign (.plain rfl)) rfl ?_
  refine st_p (fun _ => by exact y_assign (.plain rfl)) rfl ?_
  refine aops_nil ?_
  refine awp_seq ?_
  refine awp_seq ?_
  refine awp_region ?_
  refine st_p (fun _ => by exact y_loadW (.plain rfl) (by first | exact .here | exact k1 | exact k2 | exact k3 | exact k4 | exact k5 | exact k6 | exact k7 | exact k8 | exact k9 | exact k10 | exact k11 | exact k12 | exact k13) (by rfl)) rfl ?_
  refine aops_call (blt_lt rfl) (.plain rfl) (.cons (.imp (.plain rfl) (AV.Imp.agg (RowOf.imp (enc := encSp)))) .nil) (ACalls.here (check_c q (by omega) hz) ?_)
  refine st_p (fun _ => by exact y_neq (.plain rfl) (.plain rfl)) rfl ?_
  refine aops_nil ?_
  refine awp_cond rfl (fun h1 => ?_) (fun h1 => ?_)
  · skip
    try simp only [decide_eq_true_eq, decide_eq_false_iff_not, Bool.not_eq_true', Bool.not_eq_false', Bool.not_eq_true, Bool.not_eq_false, List.length_map, Int.ofNat_lt, Int.ofNat_le, Bool.or_eq_true, Bool.and_eq_true, Bool.or_eq_false_iff, Bool.and_eq_false_iff] at h1
    refine awp_seq ?_
    refine awp_region ?_
    refine st_p (fun _ => by exact y_build (out := [_, _, _, _]) .nil rfl rfl) rfl ?_
    refine st_s (fun _ => by exact y_storeW (by rfl) rfl (.plain rfl) (.plain rfl) (by first | exact .here | exact u1 | exact u2 | exact u3 | exact u4 | exact u5 | exact u6 | exact u7 | exact u8 | exact u9 | exact u10 | exact u11 | exact u12 | exact u13) (by rfl)) ?_
    refine st_p (fun _ => by exact y_assign (.plain rfl)) rfl ?_
    refine st_p (fun _ => by exact y_assign (.plain rfl)) rfl ?_
    refine aops_nil ?_
    refine awp_ret ?_
    refine retG (.inr rfl) (.cons (res_cellW rfl (by first | exact .here | exact k1 | exact k2 | exact k3 | exact k4 | exact k5 | exact k6 | exact k7 | exact k8 | exact k9 | exact k10 | exact k11 | exact k12 | exact k13) (by rfl)) (.cons (.tmp rfl) (.cons (.tmp rfl) .nil))) (VShift.of2 (AV.Imp.tup (.cons (AV.Imp.agg (RowOf.imp (enc := encSs))) (.cons (Sl.imp (enc := encEv)) (.cons (AV.Imp.refl _) .nil)))) (.nil _)) ⟨congrArg (fun x : (Sv.Ss) × (List (Sv.Evt)) × (Int) => (AV.tup [(AV.agg (encSs x.1)), (AV.sl 4 (List.map encEv x.2.1)), (AV.int x.2.2)])) (show (_, _, _) = (Sv.new q) from ?_), rfl⟩
    rw [Sv.new, if_pos (by omega)]
    all_goals rfl
  · skip
    try simp only [decide_eq_true_eq, decide_eq_false_iff_not, Bool.not_eq_true', Bool.not_eq_false', Bool.not_eq_true, Bool.not_eq_false, List.length_map, Int.ofNat_lt, Int.ofNat_le, Bool.or_eq_true, Bool.and_eq_true, Bool.or_eq_false_iff, Bool.and_eq_false_iff] at h1
    refine awp_skip ?_
    refine awp_seq ?_
    refine awp_region ?_
    refine st_p (fun _ => by exact y_build (out := [_, _, _, _]) (.cons (.plain rfl) inferInstance rfl .nil) rfl rfl) rfl ?_
    refine st_n (fun _ => by exact y_alloc) rfl fun n3 => ?_
    refine st_s (fun _ => by exact y_storeW (by rfl) rfl (.plain rfl) (.plain rfl) (by first | exact .here | exact u1 | exact u2 | exact u3 | exact u4 | exact u5 | exact u6 | exact u7 | exact u8 | exact u9 | exact u10 | exact u11 | exact u12 | exact u13) (by rfl)) ?_
    refine aops_nil ?_
    refine awp_seq ?_
    refine awp_region ?_
    refine st_p (fun _ => by exact y_assign (.plain rfl)) rfl ?_
    refine aops_nil ?_
    refine awp_seq ?_
    refine awp_seq ?_
    refine awp_region ?_
    refine st_p (fun _ => by exact y_fieldPtr (.plain rfl)) rfl ?_
    refine st_p (fun _ => by exact y_load (.plain rfl) (by first | exact .here | exact k1 | exact k2 | exact k3 | exact k4 | exact k5 | exact k6 | exact k7 | exact k8 | exact k9 | exact k10 | exact k11 | exact k12 | exact k13) rfl) rfl ?_
    first | refine st_p (fun _ => by exact y_lenN (.plain rfl)) rfl ?_ | refine st_p (fun _ => by exact y_len (.plain rfl)) rfl ?_ | refine st_p (fun _ => by exact y_lenArr (.plain rfl)) rfl ?_ | refine st_p (fun _ => by exact y_strLen (by rfl) (.plain rfl)) rfl ?_
    refine st_p (fun _ => by exact y_move (.plain rfl)) rfl ?_
    refine aops_nil ?_
    refine awp_block ?_
    refine awp_loop2 (X := Nat × Option Nat × Option Nat) [2, 5, 15] (.cons rfl (.cons rfl (.cons rfl .nil))) (fun σ x => ((6, .grow 4 x.2.2 (((List.range x.1).map (fun (i : Nat) => (⟨3, (i : Int), 0, 0⟩ : Sv.Evt))).map encEv)) : Nat × AV) :: ((16, .int (x.1 : Int)) : Nat × AV) :: σ) (fun R x => .cells n3 [.int 1, .grow 2 x.2.1 ((List.replicate x.1 (⟨1, 1⟩ : Sv.Cs)).map encCs), .val (.slice none 0 0), .bool false] :: .cells n1 (encSp q) :: .cells n2 (encSs Sv.S0) :: .tail x.2.1 :: .tail x.2.2 :: R) (fun x => x.1 ≤ q.children.length ∧ True) (fun x => q.children.length - x.1) (0, none, none) (by exact Weak.of2 (by (repeat (first | exact .nil _ | refine .cons rfl (by first | exact AV.Imp.refl _ | exact AV.Imp.nil_grow | exact AV.Imp.nil_sl | exact Sl.imp | exact AV.Imp.agg RowOf.imp | exact AV.Imp.grow_sl | exact AV.Imp.nil_grow | exact AV.Imp.full_grow | exact AV.Imp.own_grow | exact AV.Imp.grow_of rfl | exact AV.Imp.sl_of rfl | exact AV.Imp.int_of (by omega) | exact AV.Imp.of_eq (by first | omega | simpa)) ?_)); done) (by (repeat (first | exact .refl _ | exact .nil _ | apply ItLe2.cons (by first | exact .here | exact k1 | exact k2 | exact k3 | exact k4 | exact k5 | exact k6 | exact k7 | exact k8 | exact k9 | exact k10 | exact k11 | exact k12 | exact k13) | apply ItLe2.cells (by first | exact .here | exact k1 | exact k2 | exact k3 | exact k4 | exact k5 | exact k6 | exact k7 | exact k8 | exact k9 | exact k10 | exact k11 | exact k12 | exact k13) (by repeat (first | exact .nil | refine .cons (by first | exact AV.Imp.refl _ | exact AV.Imp.nil_grow | exact AV.Imp.nil_sl | exact Sl.imp | exact AV.Imp.agg RowOf.imp | exact AV.Imp.grow_sl | exact AV.Imp.nil_grow | exact AV.Imp.full_grow | exact AV.Imp.own_grow | exact AV.Imp.grow_of rfl | exact AV.Imp.sl_of rfl | exact AV.Imp.int_of (by omega) | exact AV.Imp.of_eq (by first | omega | simpa)) ?_)) | apply ItLe2.tail0)); done)) ⟨Nat.zero_le _, trivial⟩ ?_
    rintro ⟨k, ta, tb⟩ ⟨hk, -⟩
    simp only at hk
    dsimp only
    refine awp_seq ?_
    refine awp_region ?_
    refine st_p (fun _ => by exact y_lss (.plain rfl) (.plain rfl)) rfl ?_
    refine aops_nil ?_
    refine awp_seq ?_
    refine awp_cond rfl (fun h2 => ?_) (fun h2 => ?_)
    · skip
      try simp only [decide_eq_true_eq, decide_eq_false_iff_not, Bool.not_eq_true', Bool.not_eq_false', Bool.not_eq_true, Bool.not_eq_false, List.length_map, Int.ofNat_lt, Int.ofNat_le, Bool.or_eq_true, Bool.and_eq_true, Bool.or_eq_false_iff, Bool.and_eq_false_iff] at h2
      refine awp_skip ?_
      refine awp_seq ?_
      refine awp_block ?_
      refine awp_seq ?_
      refine awp_region ?_
      refine st_p (fun _ => by exact y_move (.plain rfl)) rfl ?_
      refine st_p (fun _ => by exact y_assign (.plain rfl)) rfl ?_
      refine aops_nil ?_
      refine awp_seq ?_
      refine awp_region ?_
      refine st_p (fun _ => by exact y_fieldPtr (.plain rfl)) rfl ?_
      refine st_p (fun _ => by exact y_load (.plain rfl) (by first | exact .here | exact k1 | exact k2 | exact k3 | exact k4 | exact k5 | exact k6 | exact k7 | exact k8 | exact k9 | exact k10 | exact k11 | exact k12 | exact k13) rfl) rfl ?_
      refine st_p (fun _ => by exact y_build (out := [_, _]) (.cons (.plain rfl) inferInstance rfl (.cons (.plain rfl) inferInstance rfl .nil)) rfl rfl) rfl ?_
      refine st_p (fun _ => by exact y_buildSlice (.cons (.plain rfl) inferInstance (by rfl) .nil) rfl (le_ rfl)) rfl ?_
      first | refine st_append (by rfl) (.plain rfl) (.plain rfl) (by first | (simp; try omega) | omega) rfl fun tA => ?_ | refine st_appendT (by rfl) (.plain rfl) (.plain rfl) (by first | exact .here | exact k1 | exact k2 | exact k3 | exact k4 | exact k5 | exact k6 | exact k7 | exact k8 | exact k9 | exact k10 | exact k11 | exact k12 | exact k13) (by first | (simp; try omega) | omega) rfl fun tA => ?_ | refine st_append0 (by rfl) (.plain rfl) (.plain rfl) (by first | (simp; try omega) | omega) rfl fun tA => ?_ | refine st_append0 (by rfl) (.imp (.plain rfl) AV.Imp.nil_grow) (.plain rfl) (by first | (simp; try omega) | omega) rfl fun tA => ?_ | refine st_append0 (by rfl) (.imp (.plain rfl) AV.Imp.full_grow) (.plain rfl) (by first | (simp; try omega) | omega) rfl fun tA => ?_ | refine st_appendT (by rfl) (.imp (.plain rfl) AV.Imp.own_grow) (.plain rfl) (by first | exact .here | exact k1 | exact k2 | exact k3 | exact k4 | exact k5 | exact k6 | exact k7 | exact k8 | exact k9 | exact k10 | exact k11 | exact k12 | exact k13) (by first | (simp; try omega) | omega) rfl fun tA => ?_
      refine st_p (fun _ => by exact y_fieldPtr (.plain rfl)) rfl ?_
      refine st_storeN (cs' := [_, _, _, _]) (by rfl) rfl (.plain rfl) (.plain rfl) (by first | exact .here | exact u1 | exact u2 | exact u3 | exact u4 | exact u5 | exact u6 | exact u7 | exact u8 | exact u9 | exact u10 | exact u11 | exact u12 | exact u13) (le_ rfl) (by rfl) ?_
      refine aops_nil ?_
      refine awp_region ?_
      refine st_p (fun _ => by exact y_move (.plain rfl)) rfl ?_
      refine st_p (fun _ => by exact y_move (.plain rfl)) rfl ?_
      refine st_p (fun _ => by exact y_build (out := [_, _, _, _]) (.cons (.plain rfl) inferInstance rfl (.cons (.plain rfl) inferInstance rfl .nil)) rfl rfl) rfl ?_
      refine st_p (fun _ => by exact y_buildSlice (.cons (.plain rfl) inferInstance (by rfl) .nil) rfl (le_ rfl)) rfl ?_
      first | refine st_append (by rfl) (.plain rfl) (.plain rfl) (by first | (simp; try omega) | omega) rfl fun tB => ?_ | refine st_appendT (by rfl) (.plain rfl) (.plain rfl) (by first | exact .here | exact k1 | exact k2 | exact k3 | exact k4 | exact k5 | exact k6 | exact k7 | exact k8 | exact k9 | exact k10 | exact k11 | exact k12 | exact k13) (by first | (simp; try omega) | omega) rfl fun tB => ?_ | refine st_append0 (by rfl) (.plain rfl) (.plain rfl) (by first | (simp; try omega) | omega) rfl fun tB => ?_ | refine st_append0 (by rfl) (.imp (.plain rfl) AV.Imp.nil_grow) (.plain rfl) (by first | (simp; try omega) | omega) rfl fun tB => ?_ | refine st_append0 (by rfl) (.imp (.plain rfl) AV.Imp.full_grow) (.plain rfl) (by first | (simp; try omega) | omega) rfl fun tB => ?_ | refine st_appendT (by rfl) (.imp (.plain rfl) AV.Imp.own_grow) (.plain rfl) (by first | exact .here | exact k1 | exact k2 | exact k3 | exact k4 | exact k5 | exact k6 | exact k7 | exact k8 | exact k9 | exact k10 | exact k11 | exact k12 | exact k13) (by first | (simp; try omega) | omega) rfl fun tB => ?_
      refine st_p (fun _ => by exact y_assign (.plain rfl)) rfl ?_
      refine aops_nil ?_
      refine awp_region ?_
      refine st_p (fun _ => by exact y_add (.plain rfl) (.plain rfl) (by first | omega | (simp; omega) | (simp at hc; omega) | (simp at hc ⊢; omega) | (simp; done))) rfl ?_
      refine st_p (fun _ => by exact y_move (.plain rfl)) rfl ?_
      refine aops_nil ?_
      refine ⟨(k + 1, tA, tB), ⟨by show k + 1 ≤ _; omega, trivial⟩, by show q.children.length - (k + 1) < q.children.length - k; omega, ?_⟩
      dsimp only
      have he1 : (List.replicate k (⟨1, 1⟩ : Sv.Cs)) ++ [⟨1, 1⟩] = (List.replicate (k + 1) (⟨1, 1⟩ : Sv.Cs)) := List.replicate_succ'.symm
      have he2 : ((List.range k).map (fun (i : Nat) => (⟨3, (i : Int), 0, 0⟩ : Sv.Evt))) ++ [⟨3, (k : Int), 0, 0⟩] = ((List.range (k + 1)).map (fun (i : Nat) => (⟨3, (i : Int), 0, 0⟩ : Sv.Evt))) := by rw [List.range_succ, List.map_append]; rfl
      exact Weak.of2 (by (repeat (first | exact .nil _ | refine .cons rfl (by first | exact AV.Imp.refl _ | exact AV.Imp.grow_of he1 | exact AV.Imp.grow_of he2 | exact Sl.imp | exact AV.Imp.agg RowOf.imp | exact AV.Imp.grow_sl | exact AV.Imp.nil_grow | exact AV.Imp.full_grow | exact AV.Imp.own_grow | exact AV.Imp.grow_of rfl | exact AV.Imp.sl_of rfl | exact AV.Imp.int_of (by omega) | exact AV.Imp.of_eq (by first | omega | simpa)) ?_)); done) (by (repeat (first | exact .refl _ | exact .nil _ | apply ItLe2.cons (by first | exact .here | exact k1 | exact k2 | exact k3 | exact k4 | exact k5 | exact k6 | exact k7 | exact k8 | exact k9 | exact k10 | exact k11 | exact k12 | exact k13) | apply ItLe2.cells (by first | exact .here | exact k1 | exact k2 | exact k3 | exact k4 | exact k5 | exact k6 | exact k7 | exact k8 | exact k9 | exact k10 | exact k11 | exact k12 | exact k13) (by repeat (first | exact .nil | refine .cons (by first | exact AV.Imp.refl _ | exact AV.Imp.grow_of he1 | exact AV.Imp.grow_of he2 | exact Sl.imp | exact AV.Imp.agg RowOf.imp | exact AV.Imp.grow_sl | exact AV.Imp.nil_grow | exact AV.Imp.full_grow | exact AV.Imp.own_grow | exact AV.Imp.grow_of rfl | exact AV.Imp.sl_of rfl | exact AV.Imp.int_of (by omega) | exact AV.Imp.of_eq (by first | omega | simpa)) ?_)) | apply ItLe2.tail0)); done)
    · skip
      try simp only [decide_eq_true_eq, decide_eq_false_iff_not, Bool.not_eq_true', Bool.not_eq_false', Bool.not_eq_true, Bool.not_eq_false, List.length_map, Int.ofNat_lt, Int.ofNat_le, Bool.or_eq_true, Bool.and_eq_true, Bool.or_eq_false_iff, Bool.and_eq_false_iff] at h2
      refine awp_exit ?_
      refine awp_seq ?_
      refine awp_region ?_
      refine st_p (fun _ => by exact y_loadW (.plain rfl) (by first | exact .here | exact k1 | exact k2 | exact k3 | exact k4 | exact k5 | exact k6 | exact k7 | exact k8 | exact k9 | exact k10 | exact k11 | exact k12 | exact k13) (by rfl)) rfl ?_
      refine st_p (fun _ => by exact y_move (.plain rfl)) rfl ?_
      refine st_s (fun _ => by exact y_storeW (by rfl) rfl (.plain rfl) (.plain rfl) (by first | exact .here | exact u1 | exact u2 | exact u3 | exact u4 | exact u5 | exact u6 | exact u7 | exact u8 | exact u9 | exact u10 | exact u11 | exact u12 | exact u13) (by rfl)) ?_
      refine st_p (fun _ => by exact y_assign (.plain rfl)) rfl ?_
      refine st_p (fun _ => by exact y_assign (.plain rfl)) rfl ?_
      refine aops_nil ?_
      refine awp_ret ?_
      refine retG (.inr rfl) (.cons (res_cellW rfl (by first | exact .here | exact k1 | exact k2 | exact k3 | exact k4 | exact k5 | exact k6 | exact k7 | exact k8 | exact k9 | exact k10 | exact k11 | exact k12 | exact k13) (by rfl)) (.cons (.tmp rfl) (.cons (.tmp rfl) .nil))) (VShift.of2 (AV.Imp.tup (.cons (AV.Imp.agg (RowOf.imp (enc := encSs))) (.cons (Sl.imp (enc := encEv)) (.cons (AV.Imp.refl _) .nil)))) (.nil _)) ⟨congrArg (fun x : (Sv.Ss) × (List (Sv.Evt)) × (Int) => (AV.tup [(AV.agg (encSs x.1)), (AV.sl 4 (List.map encEv x.2.1)), (AV.int x.2.2)])) (show (_, _, _) = (Sv.new q) from ?_), rfl⟩
      obtain rfl : k = q.children.length := by omega
      rw [Sv.new, if_neg (by omega)]
      all_goals rfl

theorem affected_c (q : Sv.Spc) (c : Int) (hl : q.children.length ≤ 1000) (hc : 0 ≤ c ∧ c < q.children.length) : ACalls Try.prog 40 [(AV.agg (encSp q)), (AV.int c)] [] (fun v st => v = (AV.sl 1 (List.map encI (Sv.affected q c))) ∧ st = []) := by
  refine acalls_body Try.func40 (by kernel_rfl) rfl Try.ntmps40 (le_ rfl) ?_
  rw [Try.results40]
  refine awp_seq ?_
  refine awp_region ?_
  refine st_n (fun _ => by exact y_box (.plain rfl)) rfl fun n1 => ?_
  refine st_p (fun _ => by exact y_assign (.plain rfl)) rfl ?_
  refine aops_nil ?_
  refine awp_seq ?_
  refine awp_any0 (ks := [.free, .free, .free, .free, .free, .free]) (by kernel_rfl) (fun K => ?_) ?_
  · skip
    refine dr_p (fun _ => by exact y_fieldPtr (.plain rfl)) rfl ?_
    refine dr_p (fun _ => by exact y_load (.plain rfl) (by first | exact .here | exact k1 | exact k2 | exact k3 | exact k4 | exact k5 | exact k6 | exact k7 | exact k8 | exact k9 | exact k10 | exact k11 | exact k12 | exact k13) rfl) rfl ?_
    first | refine dr_p (fun _ => by exact y_lenN (.plain rfl)) rfl ?_ | refine dr_p (fun _ => by exact y_len (.plain rfl)) rfl ?_ | refine dr_p (fun _ => by exact y_lenArr (.plain rfl)) rfl ?_ | refine dr_p (fun _ => by exact y_strLen (by rfl) (.plain rfl)) rfl ?_
    refine dr_p (fun _ => by exact y_sub (.plain rfl) (.plain rfl) (by first | omega | (simp; omega) | (simp at hc; omega) | (simp at hc ⊢; omega) | (simp; done))) rfl ?_
    refine dr_p (fun _ => by exact y_assign (.plain rfl)) rfl ?_
    refine dr_p (fun _ => by exact y_assign (.plain rfl)) rfl ?_
    refine dr_nil ⟨rfl, ?_⟩
    refine awp_seq ?_
    refine awp_seq ?_
    refine awp_region ?_
    refine st_p (fun _ => by exact y_fieldPtr (.plain rfl)) rfl ?_
    refine st_p (fun _ => by exact y_load (.plain rfl) (by first | exact .here | exact k1 | exact k2 | exact k3 | exact k4 | exact k5 | exact k6 | exact k7 | exact k8 | exact k9 | exact k10 | exact k11 | exact k12 | exact k13) rfl) rfl ?_
    refine aops_nil ?_
    refine awp_block ?_
    refine awp_seq ?_
    refine awp_region ?_
    refine st_p (fun _ => by exact y_eql (.plain rfl) (.plain rfl)) rfl ?_
    refine st_p (fun _ => by exact y_assign (.plain rfl)) rfl ?_
    refine aops_nil ?_
    refine awp_cond rfl (fun h1 => ?_) (fun h1 => ?_)
    · skip
      try simp only [decide_eq_true_eq, decide_eq_false_iff_not, Bool.not_eq_true', Bool.not_eq_false', Bool.not_eq_true, Bool.not_eq_false, List.length_map, Int.ofNat_lt, Int.ofNat_le, Bool.or_eq_true, Bool.and_eq_true, Bool.or_eq_false_iff, Bool.and_eq_false_iff] at h1
      refine awp_region ?_
      refine st_p (fun _ => by exact y_move (.plain rfl)) rfl ?_
      refine st_p (fun _ => by exact y_move (.plain rfl)) rfl ?_
      refine st_p (fun _ => by exact y_assign (.plain rfl)) rfl ?_
      refine st_p (fun _ => by exact y_assign (.plain rfl)) rfl ?_
      refine aops_nil ?_
      refine awp_seq ?_
      refine awp_region ?_
      refine st_p (fun _ => by exact y_assign (.plain rfl)) rfl ?_
      refine aops_nil ?_
      refine awp_seq ?_
      refine awp_seq ?_
      refine awp_region ?_
      refine st_p (fun _ => by exact y_move (.plain rfl)) rfl ?_
      refine st_p (fun _ => by exact y_assign (.plain rfl)) rfl ?_
      refine aops_nil ?_
      refine awp_block ?_
      refine awp_loop2 (X := Nat × Option Nat) [6] (.cons rfl .nil) (fun σ x => ((7, .grow 1 x.2 (((List.range x.1).map (fun (i : Nat) => (c : Int) + (i : Int))).map encI)) : Nat × AV) :: ((8, .int ((c : Int) + (x.1 : Int))) : Nat × AV) :: σ) (fun R x => .tail x.2 :: R) (fun x => x.1 ≤ ((c : Int) + 1 - (c)).toNat ∧ True) (fun x => ((c : Int) + 1 - (c)).toNat - x.1) (0, none) (by exact Weak.of2 (by (repeat (first | exact .nil _ | refine .cons rfl (by first | exact AV.Imp.refl _ | exact AV.Imp.int_of (by simp) | exact Sl.imp | exact AV.Imp.agg RowOf.imp | exact AV.Imp.grow_sl | exact AV.Imp.nil_grow | exact AV.Imp.full_grow | exact AV.Imp.own_grow | exact AV.Imp.grow_of rfl | exact AV.Imp.sl_of rfl | exact AV.Imp.int_of (by omega) | exact AV.Imp.of_eq (by first | omega | simpa)) ?_)); done) (by (repeat (first | exact .refl _ | exact .nil _ | apply ItLe2.cons (by first | exact .here | exact k1 | exact k2 | exact k3 | exact k4 | exact k5 | exact k6 | exact k7 | exact k8 | exact k9 | exact k10 | exact k11 | exact k12 | exact k13) | apply ItLe2.cells (by first | exact .here | exact k1 | exact k2 | exact k3 | exact k4 | exact k5 | exact k6 | exact k7 | exact k8 | exact k9 | exact k10 | exact k11 | exact k12 | exact k13) (by repeat (first | exact .nil | refine .cons (by first | exact AV.Imp.refl _ | exact AV.Imp.int_of (by simp) | exact Sl.imp | exact AV.Imp.agg RowOf.imp | exact AV.Imp.grow_sl | exact AV.Imp.nil_grow | exact AV.Imp.full_grow | exact AV.Imp.own_grow | exact AV.Imp.grow_of rfl | exact AV.Imp.sl_of rfl | exact AV.Imp.int_of (by omega) | exact AV.Imp.of_eq (by first | omega | simpa)) ?_)) | apply ItLe2.tail0)); done)) ⟨Nat.zero_le _, trivial⟩ ?_
      rintro ⟨k, tok⟩ ⟨hk, -⟩
      simp only at hk
      dsimp only
      refine awp_seq ?_
      refine awp_seq ?_
      refine awp_region ?_
      refine st_p (fun _ => by exact y_move (.plain rfl)) rfl ?_
      refine st_p (fun _ => by exact y_move (.plain rfl)) rfl ?_
      refine st_p (fun _ => by exact y_leq (.plain rfl) (.plain rfl)) rfl ?_
      refine aops_nil ?_
      refine awp_cond rfl (fun h2 => ?_) (fun h2 => ?_)
      · skip
        try simp only [decide_eq_true_eq, decide_eq_false_iff_not, Bool.not_eq_true', Bool.not_eq_false', Bool.not_eq_true, Bool.not_eq_false, List.length_map, Int.ofNat_lt, Int.ofNat_le, Bool.or_eq_true, Bool.and_eq_true, Bool.or_eq_false_iff, Bool.and_eq_false_iff] at h2
        refine awp_skip ?_
        refine awp_seq ?_
        refine awp_block ?_
        refine awp_region ?_
        refine st_p (fun _ => by exact y_move (.plain rfl)) rfl ?_
        refine st_p (fun _ => by exact y_move (.plain rfl)) rfl ?_
        refine st_p (fun _ => by exact y_buildSlice (.cons (.plain rfl) inferInstance (by rfl) .nil) rfl (le_ rfl)) rfl ?_
        first | refine st_append (by rfl) (.plain rfl) (.plain rfl) (by first | (simp; try omega) | omega) rfl fun tA => ?_ | refine st_appendT (by rfl) (.plain rfl) (.plain rfl) (by first | exact .here | exact k1 | exact k2 | exact k3 | exact k4 | exact k5 | exact k6 | exact k7 | exact k8 | exact k9 | exact k10 | exact k11 | exact k12 | exact k13) (by first | (simp; try omega) | omega) rfl fun tA => ?_ | refine st_append0 (by rfl) (.plain rfl) (.plain rfl) (by first | (simp; try omega) | omega) rfl fun tA => ?_ | refine st_append0 (by rfl) (.imp (.plain rfl) AV.Imp.nil_grow) (.plain rfl) (by first | (simp; try omega) | omega) rfl fun tA => ?_ | refine st_append0 (by rfl) (.imp (.plain rfl) AV.Imp.full_grow) (.plain rfl) (by first | (simp; try omega) | omega) rfl fun tA => ?_ | refine st_appendT (by rfl) (.imp (.plain rfl) AV.Imp.own_grow) (.plain rfl) (by first | exact .here | exact k1 | exact k2 | exact k3 | exact k4 | exact k5 | exact k6 | exact k7 | exact k8 | exact k9 | exact k10 | exact k11 | exact k12 | exact k13) (by first | (simp; try omega) | omega) rfl fun tA => ?_
        refine st_p (fun _ => by exact y_assign (.plain rfl)) rfl ?_
        refine aops_nil ?_
        refine awp_region ?_
        refine st_p (fun _ => by exact y_move (.plain rfl)) rfl ?_
        refine st_p (fun _ => by exact y_add (.plain rfl) (.plain rfl) (by first | omega | (simp; omega) | (simp at hc; omega) | (simp at hc ⊢; omega) | (simp; done))) rfl ?_
        refine st_p (fun _ => by exact y_assign (.plain rfl)) rfl ?_
        refine aops_nil ?_
        have he1 : ((List.range k).map (fun (i : Nat) => (c : Int) + (i : Int))) ++ [(c : Int) + (k : Int)] = ((List.range (k + 1)).map (fun (i : Nat) => (c : Int) + (i : Int))) := by rw [List.range_succ, List.map_append]; rfl
        refine ⟨(k + 1, tA), ⟨by show k + 1 ≤ _; omega, trivial⟩, by show ((c : Int) + 1 - (c)).toNat - (k + 1) < ((c : Int) + 1 - (c)).toNat - k; omega, ?_⟩
        dsimp only
        exact Weak.of2 (by (repeat (first | exact .nil _ | refine .cons rfl (by first | exact AV.Imp.refl _ | exact AV.Imp.grow_of he1 | exact AV.Imp.int_of (by push_cast; omega) | exact Sl.imp | exact AV.Imp.agg RowOf.imp | exact AV.Imp.grow_sl | exact AV.Imp.nil_grow | exact AV.Imp.full_grow | exact AV.Imp.own_grow | exact AV.Imp.grow_of rfl | exact AV.Imp.sl_of rfl | exact AV.Imp.int_of (by omega) | exact AV.Imp.of_eq (by first | omega | simpa)) ?_)); done) (by (repeat (first | exact .refl _ | exact .nil _ | apply ItLe2.cons (by first | exact .here | exact k1 | exact k2 | exact k3 | exact k4 | exact k5 | exact k6 | exact k7 | exact k8 | exact k9 | exact k10 | exact k11 | exact k12 | exact k13) | apply ItLe2.cells (by first | exact .here | exact k1 | exact k2 | exact k3 | exact k4 | exact k5 | exact k6 | exact k7 | exact k8 | exact k9 | exact k10 | exact k11 | exact k12 | exact k13) (by repeat (first | exact .nil | refine .cons (by first | exact AV.Imp.refl _ | exact Sl.imp | exact AV.Imp.agg RowOf.imp | exact AV.Imp.grow_sl | exact AV.Imp.nil_grow | exact AV.Imp.full_grow | exact AV.Imp.own_grow | exact AV.Imp.grow_of rfl | exact AV.Imp.sl_of rfl | exact AV.Imp.int_of (by omega) | exact AV.Imp.of_eq (by first | omega | simpa)) ?_)) | apply ItLe2.tail0)); done)
      · skip
        try simp only [decide_eq_true_eq, decide_eq_false_iff_not, Bool.not_eq_true', Bool.not_eq_false', Bool.not_eq_true, Bool.not_eq_false, List.length_map, Int.ofNat_lt, Int.ofNat_le, Bool.or_eq_true, Bool.and_eq_true, Bool.or_eq_false_iff, Bool.and_eq_false_iff] at h2
        refine awp_exit ?_
        refine awp_seq ?_
        refine awp_region ?_
        refine st_p (fun _ => by exact y_move (.plain rfl)) rfl ?_
        refine st_p (fun _ => by exact y_assign (.plain rfl)) rfl ?_
        refine aops_nil ?_
        refine awp_ret ?_
        refine retG (.inr rfl) (.cons (.tmp rfl) .nil) (VShift.of1 (Sl.imp (enc := encI)) (.nil _)) ⟨congrArg (fun x : (List (Int)) => (AV.sl 1 (List.map encI x))) (show _ = (Sv.affected q c) from ?_), rfl⟩
        rw [Sv.affected, if_pos (by assumption), Sv.fromTo]
        obtain rfl : k = (c + 1 - c).toNat := by omega
        rfl
    · skip
      try simp only [decide_eq_true_eq, decide_eq_false_iff_not, Bool.not_eq_true', Bool.not_eq_false', Bool.not_eq_true, Bool.not_eq_false, List.length_map, Int.ofNat_lt, Int.ofNat_le, Bool.or_eq_true, Bool.and_eq_true, Bool.or_eq_false_iff, Bool.and_eq_false_iff] at h1
      refine awp_seq ?_
      refine awp_region ?_
      refine st_p (fun _ => by exact y_eql (.plain rfl) (.plain rfl)) rfl ?_
      refine st_p (fun _ => by exact y_assign (.plain rfl)) rfl ?_
      refine aops_nil ?_
      refine awp_cond rfl (fun h3 => ?_) (fun h3 => ?_)
      · skip
        try simp only [decide_eq_true_eq, decide_eq_false_iff_not, Bool.not_eq_true', Bool.not_eq_false', Bool.not_eq_true, Bool.not_eq_false, List.length_map, Int.ofNat_lt, Int.ofNat_le, Bool.or_eq_true, Bool.and_eq_true, Bool.or_eq_false_iff, Bool.and_eq_false_iff] at h3
        refine awp_region ?_
        refine st_p (fun _ => by exact y_move (.plain rfl)) rfl ?_
        refine st_p (fun _ => by exact y_assign (.plain rfl)) rfl ?_
        refine aops_nil ?_
        refine awp_seq ?_
        refine awp_region ?_
        refine st_p (fun _ => by exact y_assign (.plain rfl)) rfl ?_
        refine aops_nil ?_
        refine awp_seq ?_
        refine awp_seq ?_
        refine awp_region ?_
        refine st_p (fun _ => by exact y_move (.plain rfl)) rfl ?_
        refine st_p (fun _ => by exact y_assign (.plain rfl)) rfl ?_
        refine aops_nil ?_
        refine awp_block ?_
        refine awp_loop2 (X := Nat × Option Nat) [6] (.cons rfl .nil) (fun σ x => ((7, .grow 1 x.2 (((List.range x.1).map (fun (i : Nat) => (c : Int) + (i : Int))).map encI)) : Nat × AV) :: ((8, .int ((c : Int) + (x.1 : Int))) : Nat × AV) :: σ) (fun R x => .tail x.2 :: R) (fun x => x.1 ≤ ((((q.children.length : Int) - 1) : Int) + 1 - (c)).toNat ∧ True) (fun x => ((((q.children.length : Int) - 1) : Int) + 1 - (c)).toNat - x.1) (0, none) (by exact Weak.of2 (by (repeat (first | exact .nil _ | refine .cons rfl (by first | exact AV.Imp.refl _ | exact AV.Imp.int_of (by simp) | exact Sl.imp | exact AV.Imp.agg RowOf.imp | exact AV.Imp.grow_sl | exact AV.Imp.nil_grow | exact AV.Imp.full_grow | exact AV.Imp.own_grow | exact AV.Imp.grow_of rfl | exact AV.Imp.sl_of rfl | exact AV.Imp.int_of (by omega) | exact AV.Imp.of_eq (by first | omega | simpa)) ?_)); done) (by (repeat (first | exact .refl _ | exact .nil _ | apply ItLe2.cons (by first | exact .here | exact k1 | exact k2 | exact k3 | exact k4 | exact k5 | exact k6 | exact k7 | exact k8 | exact k9 | exact k10 | exact k11 | exact k12 | exact k13) | apply ItLe2.cells (by first | exact .here | exact k1 | exact k2 | exact k3 | exact k4 | exact k5 | exact k6 | exact k7 | exact k8 | exact k9 | exact k10 | exact k11 | exact k12 | exact k13) (by repeat (first | exact .nil | refine .cons (by first | exact AV.Imp.refl _ | exact AV.Imp.int_of (by simp) | exact Sl.imp | exact AV.Imp.agg RowOf.imp | exact AV.Imp.grow_sl | exact AV.Imp.nil_grow | exact AV.Imp.full_grow | exact AV.Imp.own_grow | exact AV.Imp.grow_of rfl | exact AV.Imp.sl_of rfl | exact AV.Imp.int_of (by omega) | exact AV.Imp.of_eq (by first | omega | simpa)) ?_)) | apply ItLe2.tail0)); done)) ⟨Nat.zero_le _, trivial⟩ ?_
        rintro ⟨k, tok⟩ ⟨hk, -⟩
        simp only at hk
        dsimp only
        refine awp_seq ?_
        refine awp_seq ?_
        refine awp_region ?_
        refine st_p (fun _ => by exact y_move (.plain rfl)) rfl ?_
        refine st_p (fun _ => by exact y_move (.plain rfl)) rfl ?_
        refine st_p (fun _ => by exact y_leq (.plain rfl) (.plain rfl)) rfl ?_
        refine aops_nil ?_
        refine awp_cond rfl (fun h4 => ?_) (fun h4 => ?_)
        · skip
          try simp only [decide_eq_true_eq, decide_eq_false_iff_not, Bool.not_eq_true', Bool.not_eq_false', Bool.not_eq_true, Bool.not_eq_false, List.length_map, Int.ofNat_lt, Int.ofNat_le, Bool.or_eq_true, Bool.and_eq_true, Bool.or_eq_false_iff, Bool.and_eq_false_iff] at h4
          refine awp_skip ?_
          refine awp_seq ?_
          refine awp_block ?_
          refine awp_region ?_
          refine st_p (fun _ => by exact y_move (.plain rfl)) rfl ?_
          refine st_p (fun _ => by exact y_move (.plain rfl)) rfl ?_
          refine st_p (fun _ => by exact y_buildSlice (.cons (.plain rfl) inferInstance (by rfl) .nil) rfl (le_ rfl)) rfl ?_
          first | refine st_append (by rfl) (.plain rfl) (.plain rfl) (by first | (simp; try omega) | omega) rfl fun tA => ?_ | refine st_appendT (by rfl) (.plain rfl) (.plain rfl) (by first | exact .here | exact k1 | exact k2 | exact k3 | exact k4 | exact k5 | exact k6 | exact k7 | exact k8 | exact k9 | exact k10 | exact k11 | exact k12 | exact k13) (by first | (simp; try omega) | omega) rfl fun tA => ?_ | refine st_append0 (by rfl) (.plain rfl) (.plain rfl) (by first | (simp; try omega) | omega) rfl fun tA => ?_ | refine st_append0 (by rfl) (.imp (.plain rfl) AV.Imp.nil_grow) (.plain rfl) (by first | (simp; try omega) | omega) rfl fun tA => ?_ | refine st_append0 (by rfl) (.imp (.plain rfl) AV.Imp.full_grow) (.plain rfl) (by first | (simp; try omega) | omega) rfl fun tA => ?_ | refine st_appendT (by rfl) (.imp (.plain rfl) AV.Imp.own_grow) (.plain rfl) (by first | exact .here | exact k1 | exact k2 | exact k3 | exact k4 | exact k5 | exact k6 | exact k7 | exact k8 | exact k9 | exact k10 | exact k11 | exact k12 | exact k13) (by first | (simp; try omega) | omega) rfl fun tA => ?_
          refine st_p (fun _ => by exact y_assign (.plain rfl)) rfl ?_
          refine aops_nil ?_
          refine awp_region ?_
          refine st_p (fun _ => by exact y_move (.plain rfl)) rfl ?_
          refine st_p (fun _ => by exact y_add (.plain rfl) (.plain rfl) (by first | omega | (simp; omega) | (simp at hc; omega) | (simp at hc ⊢; omega) | (simp; done))) rfl ?_
          refine st_p (fun _ => by exact y_assign (.plain rfl)) rfl ?_
          refine aops_nil ?_
          have he1 : ((List.range k).map (fun (i : Nat) => (c : Int) + (i : Int))) ++ [(c : Int) + (k : Int)] = ((List.range (k + 1)).map (fun (i : Nat) => (c : Int) + (i : Int))) := by rw [List.range_succ, List.map_append]; rfl
          refine ⟨(k + 1, tA), ⟨by show k + 1 ≤ _; omega, trivial⟩, by show ((((q.children.length : Int) - 1) : Int) + 1 - (c)).toNat - (k + 1) < ((((q.children.length : Int) - 1) : Int) + 1 - (c)).toNat - k; omega, ?_⟩
          dsimp only
          exact Weak.of2 (by (repeat (first | exact .nil _ | refine .cons rfl (by first | exact AV.Imp.refl _ | exact AV.Imp.grow_of he1 | exact AV.Imp.int_of (by push_cast; omega) | exact Sl.imp | exact AV.Imp.agg RowOf.imp | exact AV.Imp.grow_sl | exact AV.Imp.nil_grow | exact AV.Imp.full_grow | exact AV.Imp.own_grow | exact AV.Imp.grow_of rfl | exact AV.Imp.sl_of rfl | exact AV.Imp.int_of (by omega) | exact AV.Imp.of_eq (by first | omega | simpa)) ?_)); done) (by (repeat (first | exact .refl _ | exact .nil _ | apply ItLe2.cons (by first | exact .here | exact k1 | exact k2 | exact k3 | exact k4 | exact k5 | exact k6 | exact k7 | exact k8 | exact k9 | exact k10 | exact k11 | exact k12 | exact k13) | apply ItLe2.cells (by first | exact .here | exact k1 | exact k2 | exact k3 | exact k4 | exact k5 | exact k6 | exact k7 | exact k8 | exact k9 | exact k10 | exact k11 | exact k12 | exact k13) (by repeat (first | exact .nil | refine .cons (by first | exact AV.Imp.refl _ | exact Sl.imp | exact AV.Imp.agg RowOf.imp | exact AV.Imp.grow_sl | exact AV.Imp.nil_grow | exact AV.Imp.full_grow | exact AV.Imp.own_grow | exact AV.Imp.grow_of rfl | exact AV.Imp.sl_of rfl | exact AV.Imp.int_of (by omega) | exact AV.Imp.of_eq (by first | omega | simpa)) ?_)) | apply ItLe2.tail0)); done)
        · skip
          try simp only [decide_eq_true_eq, decide_eq_false_iff_not, Bool.not_eq_true', Bool.not_eq_false', Bool.not_eq_true, Bool.not_eq_false, List.length_map, Int.ofNat_lt, Int.ofNat_le, Bool.or_eq_true, Bool.and_eq_true, Bool.or_eq_false_iff, Bool.and_eq_false_iff] at h4
          refine awp_exit ?_
          refine awp_seq ?_
          refine awp_region ?_
          refine st_p (fun _ => by exact y_move (.plain rfl)) rfl ?_
          refine st_p (fun _ => by exact y_assign (.plain rfl)) rfl ?_
          refine aops_nil ?_
          refine awp_ret ?_
          refine retG (.inr rfl) (.cons (.tmp rfl) .nil) (VShift.of1 (Sl.imp (enc := encI)) (.nil _)) ⟨congrArg (fun x : (List (Int)) => (AV.sl 1 (List.map encI x))) (show _ = (Sv.affected q c) from ?_), rfl⟩
          rw [Sv.affected, if_neg (by assumption), if_pos (by assumption), Sv.fromTo]
          obtain rfl : k = (((q.children.length : Int) - 1) + 1 - c).toNat := by omega
          rfl
      · skip
        try simp only [decide_eq_true_eq, decide_eq_false_iff_not, Bool.not_eq_true', Bool.not_eq_false', Bool.not_eq_true, Bool.not_eq_false, List.length_map, Int.ofNat_lt, Int.ofNat_le, Bool.or_eq_true, Bool.and_eq_true, Bool.or_eq_false_iff, Bool.and_eq_false_iff] at h3
        refine awp_skip ?_
        refine awp_seq ?_
        refine awp_region ?_
        refine st_p (fun _ => by exact y_assign (.plain rfl)) rfl ?_
        refine aops_nil ?_
        refine awp_seq ?_
        refine awp_seq ?_
        refine awp_region ?_
        refine st_p (fun _ => by exact y_move (.plain rfl)) rfl ?_
        refine st_p (fun _ => by exact y_assign (.plain rfl)) rfl ?_
        refine aops_nil ?_
        refine awp_block ?_
        refine awp_loop2 (X := Nat × Option Nat) [6] (.cons rfl .nil) (fun σ x => ((7, .grow 1 x.2 (((List.range x.1).map (fun (i : Nat) => (0 : Int) + (i : Int))).map encI)) : Nat × AV) :: ((8, .int ((0 : Int) + (x.1 : Int))) : Nat × AV) :: σ) (fun R x => .tail x.2 :: R) (fun x => x.1 ≤ ((((q.children.length : Int) - 1) : Int) + 1 - (0)).toNat ∧ True) (fun x => ((((q.children.length : Int) - 1) : Int) + 1 - (0)).toNat - x.1) (0, none) (by exact Weak.of2 (by (repeat (first | exact .nil _ | refine .cons rfl (by first | exact AV.Imp.refl _ | exact AV.Imp.int_of (by simp) | exact Sl.imp | exact AV.Imp.agg RowOf.imp | exact AV.Imp.grow_sl | exact AV.Imp.nil_grow | exact AV.Imp.full_grow | exact AV.Imp.own_grow | exact AV.Imp.grow_of rfl | exact AV.Imp.sl_of rfl | exact AV.Imp.int_of (by omega) | exact AV.Imp.of_eq (by first | omega | simpa)) ?_)); done) (by (repeat (first | exact .refl _ | exact .nil _ | apply ItLe2.cons (by first | exact .here | exact k1 | exact k2 | exact k3 | exact k4 | exact k5 | exact k6 | exact k7 | exact k8 | exact k9 | exact k10 | exact k11 | exact k12 | exact k13) | apply ItLe2.cells (by first | exact .here | exact k1 | exact k2 | exact k3 | exact k4 | exact k5 | exact k6 | exact k7 | exact k8 | exact k9 | exact k10 | exact k11 | exact k12 | exact k13) (by repeat (first | exact .nil | refine .cons (by first | exact AV.Imp.refl _ | exact AV.Imp.int_of (by simp) | exact Sl.imp | exact AV.Imp.agg RowOf.imp | exact AV.Imp.grow_sl | exact AV.Imp.nil_grow | exact AV.Imp.full_grow | exact AV.Imp.own_grow | exact AV.Imp.grow_of rfl | exact AV.Imp.sl_of rfl | exact AV.Imp.int_of (by omega) | exact AV.Imp.of_eq (by first | omega | simpa)) ?_)) | apply ItLe2.tail0)); done)) ⟨Nat.zero_le _, trivial⟩ ?_
        rintro ⟨k, tok⟩ ⟨hk, -⟩
        simp only at hk
        dsimp only
        refine awp_seq ?_
        refine awp_seq ?_
        refine awp_region ?_
        refine st_p (fun _ => by exact y_move (.plain rfl)) rfl ?_
        refine st_p (fun _ => by exact y_move (.plain rfl)) rfl ?_
        refine st_p (fun _ => by exact y_leq (.plain rfl) (.plain rfl)) rfl ?_
        refine aops_nil ?_
        refine awp_cond rfl (fun h5 => ?_) (fun h5 => ?_)
        · skip
          try simp only [decide_eq_true_eq, decide_eq_false_iff_not, Bool.not_eq_true', Bool.not_eq_false', Bool.not_eq_true, Bool.not_eq_false, List.length_map, Int.ofNat_lt, Int.ofNat_le, Bool.or_eq_true, Bool.and_eq_true, Bool.or_eq_false_iff, Bool.and_eq_false_iff] at h5
          refine awp_skip ?_
          refine awp_seq ?_
          refine awp_block ?_
          refine awp_region ?_
          refine st_p (fun _ => by exact y_move (.plain rfl)) rfl ?_
          refine st_p (fun _ => by exact y_move (.plain rfl)) rfl ?_
          refine st_p (fun _ => by exact y_buildSlice (.cons (.plain rfl) inferInstance (by rfl) .nil) rfl (le_ rfl)) rfl ?_
          first | refine st_append (by rfl) (.plain rfl) (.plain rfl) (by first | (simp; try omega) | omega) rfl fun tA => ?_ | refine st_appendT (by rfl) (.plain rfl) (.plain rfl) (by first | exact .here | exact k1 | exact k2 | exact k3 | exact k4 | exact k5 | exact k6 | exact k7 | exact k8 | exact k9 | exact k10 | exact k11 | exact k12 | exact k13) (by first | (simp; try omega) | omega) rfl fun tA => ?_ | refine st_append0 (by rfl) (.plain rfl) (.plain rfl) (by first | (simp; try omega) | omega) rfl fun tA => ?_ | refine st_append0 (by rfl) (.imp (.plain rfl) AV.Imp.nil_grow) (.plain rfl) (by first | (simp; try omega) | omega) rfl fun tA => ?_ | refine st_append0 (by rfl) (.imp (.plain rfl) AV.Imp.full_grow) (.plain rfl) (by first | (simp; try omega) | omega) rfl fun tA => ?_ | refine st_appendT (by rfl) (.imp (.plain rfl) AV.Imp.own_grow) (.plain rfl) (by first | exact .here | exact k1 | exact k2 | exact k3 | exact k4 | exact k5 | exact k6 | exact k7 | exact k8 | exact k9 | exact k10 | exact k11 | exact k12 | exact k13) (by first | (simp; try omega) | omega) rfl fun tA => ?_
          refine st_p (fun _ => by exact y_assign (.plain rfl)) rfl ?_
          refine aops_nil ?_
          refine awp_region ?_
          refine st_p (fun _ => by exact y_move (.plain rfl)) rfl ?_
          refine st_p (fun _ => by exact y_add (.plain rfl) (.plain rfl) (by first | omega | (simp; omega) | (simp at hc; omega) | (simp at hc ⊢; omega) | (simp; done))) rfl ?_
          refine st_p (fun _ => by exact y_assign (.plain rfl)) rfl ?_
          refine aops_nil ?_
          have he1 : ((List.range k).map (fun (i : Nat) => (0 : Int) + (i : Int))) ++ [(0 : Int) + (k : Int)] = ((List.range (k + 1)).map (fun (i : Nat) => (0 : Int) + (i : Int))) := by rw [List.range_succ, List.map_append]; rfl
          refine ⟨(k + 1, tA), ⟨by show k + 1 ≤ _; omega, trivial⟩, by show ((((q.children.length : Int) - 1) : Int) + 1 - (0)).toNat - (k + 1) < ((((q.children.length : Int) - 1) : Int) + 1 - (0)).toNat - k; omega, ?_⟩
          dsimp only
          exact Weak.of2 (by (repeat (first | exact .nil _ | refine .cons rfl (by first | exact AV.Imp.refl _ | exact AV.Imp.grow_of he1 | exact AV.Imp.int_of (by push_cast; omega) | exact Sl.imp | exact AV.Imp.agg RowOf.imp | exact AV.Imp.grow_sl | exact AV.Imp.nil_grow | exact AV.Imp.full_grow | exact AV.Imp.own_grow | exact AV.Imp.grow_of rfl | exact AV.Imp.sl_of rfl | exact AV.Imp.int_of (by omega) | exact AV.Imp.of_eq (by first | omega | simpa)) ?_)); done) (by (repeat (first | exact .refl _ | exact .nil _ | apply ItLe2.cons (by first | exact .here | exact k1 | exact k2 | exact k3 | exact k4 | exact k5 | exact k6 | exact k7 | exact k8 | exact k9 | exact k10 | exact k11 | exact k12 | exact k13) | apply ItLe2.cells (by first | exact .here | exact k1 | exact k2 | exact k3 | exact k4 | exact k5 | exact k6 | exact k7 | exact k8 | exact k9 | exact k10 | exact k11 | exact k12 | exact k13) (by repeat (first | exact .nil | refine .cons (by first | exact AV.Imp.refl _ | exact Sl.imp | exact AV.Imp.agg RowOf.imp | exact AV.Imp.grow_sl | exact AV.Imp.nil_grow | exact AV.Imp.full_grow | exact AV.Imp.own_grow | exact AV.Imp.grow_of rfl | exact AV.Imp.sl_of rfl | exact AV.Imp.int_of (by omega) | exact AV.Imp.of_eq (by first | omega | simpa)) ?_)) | apply ItLe2.tail0)); done)
        · skip
          try simp only [decide_eq_true_eq, decide_eq_false_iff_not, Bool.not_eq_true', Bool.not_eq_false', Bool.not_eq_true, Bool.not_eq_false, List.length_map, Int.ofNat_lt, Int.ofNat_le, Bool.or_eq_true, Bool.and_eq_true, Bool.or_eq_false_iff, Bool.and_eq_false_iff] at h5
          refine awp_exit ?_
          refine awp_seq ?_
          refine awp_region ?_
          refine st_p (fun _ => by exact y_move (.plain rfl)) rfl ?_
          refine st_p (fun _ => by exact y_assign (.plain rfl)) rfl ?_
          refine aops_nil ?_
          refine awp_ret ?_
          refine retG (.inr rfl) (.cons (.tmp rfl) .nil) (VShift.of1 (Sl.imp (enc := encI)) (.nil _)) ⟨congrArg (fun x : (List (Int)) => (AV.sl 1 (List.map encI x))) (show _ = (Sv.affected q c) from ?_), rfl⟩
          rw [Sv.affected, if_neg (by assumption), if_neg (by assumption), Sv.fromTo]
          obtain rfl : k = (((q.children.length : Int) - 1) + 1 - 0).toNat := by omega
          rfl
  · kernel_rfl

theorem evchk_c (q : Sv.Spc) (s : Sv.Ss) (e : Sv.Evt) (hl : q.children.length ≤ 1000) (hs : s.children.length = q.children.length) (hr : s.restarts.length ≤ 1000000) : ACalls Try.prog 18 [(AV.agg (encSp q)), (AV.agg (encSs s)), (AV.agg (encEv e))] [] (fun v st => v = (AV.int (Sv.check q s e)) ∧ st = []) := by
  refine acalls_body Try.func18 (by kernel_rfl) rfl Try.ntmps18 (le_ rfl) ?_
  rw [Try.results18]
  refine awp_seq ?_
  refine awp_region ?_
  refine st_n (fun _ => by exact y_box (.plain rfl)) rfl fun n1 => ?_
  refine st_n (fun _ => by exact y_box (.plain rfl)) rfl fun n2 => ?_
  refine st_n (fun _ => by exact y_box (.plain rfl)) rfl fun n3 => ?_
  refine st_p (fun _ => by exact y_assign (.plain rfl)) rfl ?_
  refine aops_nil ?_
  refine awp_seq ?_
  refine awp_region ?_
  refine st_p (fun _ => by exact y_fieldPtr (.plain rfl)) rfl ?_
  refine st_p (fun _ => by exact y_load (.plain rfl) (by first | exact .here | exact k1 | exact k2 | exact k3 | exact k4 | exact k5 | exact k6 | exact k7 | exact k8 | exact k9 | exact k10 | exact k11 | exact k12 | exact k13) rfl) rfl ?_
  refine st_p (fun _ => by exact y_eql (.plain rfl) (.plain rfl)) rfl ?_
  refine st_p (fun _ => by exact y_assign (.plain rfl)) rfl ?_
  refine aops_nil ?_
  refine awp_seq ?_
  refine awp_block ?_
  refine awp_seq ?_
  refine awp_region ?_
  refine st_p (fun _ => by exact y_move (.plain rfl)) rfl ?_
  refine st_p (fun _ => by exact y_not (.plain rfl)) rfl ?_
  refine st_p (fun _ => by exact y_move (.plain rfl)) rfl ?_
  refine st_g rfl rfl rfl SaysI.out (fun hc _ => by exact y_fieldPtr (.plain rfl)) rfl ?_
  refine st_g rfl rfl rfl SaysI.out (fun hc _ => by exact y_load (.opt rfl hc) (by first | exact .here | exact k1 | exact k2 | exact k3 | exact k4 | exact k5 | exact k6 | exact k7 | exact k8 | exact k9 | exact k10 | exact k11 | exact k12 | exact k13) rfl) rfl ?_
  refine st_g rfl rfl rfl SaysI.out (fun hc _ => by exact y_neq (.opt rfl hc) (.plain rfl)) rfl ?_
  refine st_p (fun _ => by exact y_and (.plain rfl) rfl rfl) rfl ?_
  refine st_p (fun _ => by exact y_assign (.plain rfl)) rfl ?_
  refine aops_nil ?_
  refine awp_cond rfl (fun h1 => ?_) (fun h1 => ?_)
  · skip
    try simp only [decide_eq_true_eq, decide_eq_false_iff_not, Bool.not_eq_true', Bool.not_eq_false', Bool.not_eq_true, Bool.not_eq_false, List.length_map, Int.ofNat_lt, Int.ofNat_le, Bool.or_eq_true, Bool.and_eq_true, Bool.or_eq_false_iff, Bool.and_eq_false_iff] at h1
    refine awp_seq ?_
    refine awp_region ?_
    refine st_p (fun _ => by exact y_assign (.plain rfl)) rfl ?_
    refine aops_nil ?_
    refine awp_ret ?_
    refine retG (.inr rfl) (.cons (.tmp rfl) .nil) (VShift.of1 (AV.Imp.refl _) (.nil _)) ⟨congrArg (fun x : (Int) => (AV.int x)) (show _ = (Sv.check q s e) from ?_), rfl⟩
    unfold Sv.check
    by_cases hk : e.kind = 1 <;> simp_all <;> first | done | omega | exact Sv.last_or (by assumption) | (rw [if_neg (fun ⟨a, b⟩ => by have := Sv.last_or (by assumption) a; omega), if_neg (by omega)])
  · skip
    try simp only [decide_eq_true_eq, decide_eq_false_iff_not, Bool.not_eq_true', Bool.not_eq_false', Bool.not_eq_true, Bool.not_eq_false, List.length_map, Int.ofNat_lt, Int.ofNat_le, Bool.or_eq_true, Bool.and_eq_true, Bool.or_eq_false_iff, Bool.and_eq_false_iff] at h1
    refine awp_seq ?_
    refine awp_seq ?_
    refine awp_region ?_
    refine st_p (fun _ => by exact y_move (.plain rfl)) rfl ?_
    refine st_p (fun _ => by exact y_move (.plain rfl)) rfl ?_
    refine st_g rfl rfl rfl SaysI.out (fun hc _ => by exact y_fieldPtr (.plain rfl)) rfl ?_
    refine st_g rfl rfl rfl SaysI.out (fun hc _ => by exact y_load (.opt rfl hc) (by first | exact .here | exact k1 | exact k2 | exact k3 | exact k4 | exact k5 | exact k6 | exact k7 | exact k8 | exact k9 | exact k10 | exact k11 | exact k12 | exact k13) rfl) rfl ?_
    refine st_g rfl rfl rfl SaysI.out (fun hc _ => by exact y_fieldPtr (.plain rfl)) rfl ?_
    refine st_g rfl rfl rfl SaysI.out (fun hc _ => by exact y_load (.opt rfl hc) (by first | exact .here | exact k1 | exact k2 | exact k3 | exact k4 | exact k5 | exact k6 | exact k7 | exact k8 | exact k9 | exact k10 | exact k11 | exact k12 | exact k13) rfl) rfl ?_
    first | refine st_g rfl rfl rfl SaysI.out (fun hc _ => by exact y_lenN (.opt rfl hc)) rfl ?_ | refine st_g rfl rfl rfl SaysI.out (fun hc _ => by exact y_len (.opt rfl hc)) rfl ?_ | refine st_g rfl rfl rfl SaysI.out (fun hc _ => by exact y_lenArr (.opt rfl hc)) rfl ?_ | refine st_g rfl rfl rfl SaysI.out (fun hc _ => by exact y_strLen (by rfl) (.opt rfl hc)) rfl ?_
    refine st_g rfl rfl rfl SaysI.out (fun hc _ => by exact y_sub (.opt rfl hc) (.plain rfl) (by first | omega | (simp; omega) | (simp at hc; omega) | (simp at hc ⊢; omega) | (simp; done))) rfl ?_
    refine st_g rfl rfl rfl SaysI.out (fun hc _ => by exact y_call (.plain rfl) (.cons (.opt rfl hc) (.cons (.plain rfl) (.cons (.opt rfl hc) .nil))) (ACalls.pure (within_c _ _ _))) rfl ?_
    refine st_g rfl rfl rfl SaysI.out (fun hc _ => by exact y_not (.opt rfl hc)) rfl ?_
    refine st_g rfl rfl rfl SaysI.out (fun hc _ => by exact y_move (.opt rfl hc)) rfl ?_
    refine st_g rfl rfl rfl SaysI.out (fun hc _ => by exact y_fieldPtr (.plain rfl)) rfl ?_
    refine st_g rfl rfl rfl SaysI.out (fun hc _ => by exact y_load (.opt rfl hc) (by first | exact .here | exact k1 | exact k2 | exact k3 | exact k4 | exact k5 | exact k6 | exact k7 | exact k8 | exact k9 | exact k10 | exact k11 | exact k12 | exact k13) rfl) rfl ?_
    refine st_g rfl rfl rfl SaysI.out (fun hc _ => by exact y_call (.plain rfl) (.cons (.opt rfl hc) .nil) (ACalls.pure (isReason_c _))) rfl ?_
    refine st_g rfl rfl rfl SaysI.out (fun hc _ => by exact y_not (.opt rfl hc)) rfl ?_
    first | refine st_g rfl rfl rfl SaysI.out (fun hc _ => by exact y_or' hc (.opt rfl hc) rfl rfl) rfl ?_ | refine st_g rfl rfl rfl SaysI.out (fun hc _ => by exact y_or (.opt rfl hc) rfl rfl) rfl ?_
    refine st_p (fun _ => by exact y_and (.plain rfl) rfl rfl) rfl ?_
    refine st_p (fun _ => by exact y_assign (.plain rfl)) rfl ?_
    refine aops_nil ?_
    refine awp_cond rfl (fun h2 => ?_) (fun h2 => ?_)
    · skip
      try simp only [decide_eq_true_eq, decide_eq_false_iff_not, Bool.not_eq_true', Bool.not_eq_false', Bool.not_eq_true, Bool.not_eq_false, List.length_map, Int.ofNat_lt, Int.ofNat_le, Bool.or_eq_true, Bool.and_eq_true, Bool.or_eq_false_iff, Bool.and_eq_false_iff] at h2
      refine awp_skip ?_
      refine awp_cond rfl (fun h3 => ?_) (fun h3 => ?_)
      · skip
        try simp only [decide_eq_true_eq, decide_eq_false_iff_not, Bool.not_eq_true', Bool.not_eq_false', Bool.not_eq_true, Bool.not_eq_false, List.length_map, Int.ofNat_lt, Int.ofNat_le, Bool.or_eq_true, Bool.and_eq_true, Bool.or_eq_false_iff, Bool.and_eq_false_iff] at h3
        refine awp_seq ?_
        refine awp_region ?_
        refine st_p (fun _ => by exact y_assign (.plain rfl)) rfl ?_
        refine aops_nil ?_
        refine awp_ret ?_
        refine retG (.inr rfl) (.cons (.tmp rfl) .nil) (VShift.of1 (AV.Imp.refl _) (.nil _)) ⟨congrArg (fun x : (Int) => (AV.int x)) (show _ = (Sv.check q s e) from ?_), rfl⟩
        unfold Sv.check
        by_cases hk : e.kind = 1 <;> simp_all <;> first | done | omega | exact Sv.last_or (by assumption) | (rw [if_neg (fun ⟨a, b⟩ => by have := Sv.last_or (by assumption) a; omega), if_neg (by omega)])
      · skip
        try simp only [decide_eq_true_eq, decide_eq_false_iff_not, Bool.not_eq_true', Bool.not_eq_false', Bool.not_eq_true, Bool.not_eq_false, List.length_map, Int.ofNat_lt, Int.ofNat_le, Bool.or_eq_true, Bool.and_eq_true, Bool.or_eq_false_iff, Bool.and_eq_false_iff] at h3
        refine awp_seq ?_
        refine awp_any0 (ks := [.free, .free, .free, .free, .free, .free, .free, .free, .free, .free, .free, .free, .free, .free, .free, .free, .free, .free]) (by kernel_rfl) (fun K => ?_) ?_
        · skip
          refine dr_p (fun _ => by exact y_fieldPtr (.plain rfl)) rfl ?_
          refine dr_p (fun _ => by exact y_load (.plain rfl) (by first | exact .here | exact k1 | exact k2 | exact k3 | exact k4 | exact k5 | exact k6 | exact k7 | exact k8 | exact k9 | exact k10 | exact k11 | exact k12 | exact k13) rfl) rfl ?_
          first | refine dr_p (fun _ => by exact y_lenN (.plain rfl)) rfl ?_ | refine dr_p (fun _ => by exact y_len (.plain rfl)) rfl ?_ | refine dr_p (fun _ => by exact y_lenArr (.plain rfl)) rfl ?_ | refine dr_p (fun _ => by exact y_strLen (by rfl) (.plain rfl)) rfl ?_
          refine dr_p (fun _ => by exact y_gtr (.plain rfl) (.plain rfl)) rfl ?_
          refine dr_p (fun _ => by exact y_move (.plain rfl)) rfl ?_
          refine dr_g rfl rfl rfl SaysI.out (fun hc _ => by exact y_fieldPtr (.plain rfl)) rfl ?_
          refine dr_g rfl rfl rfl SaysI.out (fun hc _ => by exact y_load (.opt rfl hc) (by first | exact .here | exact k1 | exact k2 | exact k3 | exact k4 | exact k5 | exact k6 | exact k7 | exact k8 | exact k9 | exact k10 | exact k11 | exact k12 | exact k13) rfl) rfl ?_
          refine dr_g rfl rfl rfl SaysI.out (fun hc _ => by exact y_fieldPtr (.plain rfl)) rfl ?_
          refine dr_g rfl rfl rfl SaysI.out (fun hc _ => by exact y_load (.opt rfl hc) (by first | exact .here | exact k1 | exact k2 | exact k3 | exact k4 | exact k5 | exact k6 | exact k7 | exact k8 | exact k9 | exact k10 | exact k11 | exact k12 | exact k13) rfl) rfl ?_
          refine dr_g rfl rfl rfl SaysI.out (fun hc _ => by exact y_fieldPtr (.plain rfl)) rfl ?_
          refine dr_g rfl rfl rfl SaysI.out (fun hc _ => by exact y_load (.opt rfl hc) (by first | exact .here | exact k1 | exact k2 | exact k3 | exact k4 | exact k5 | exact k6 | exact k7 | exact k8 | exact k9 | exact k10 | exact k11 | exact k12 | exact k13) rfl) rfl ?_
          first | refine dr_g rfl rfl rfl SaysI.out (fun hc _ => by exact y_lenN (.opt rfl hc)) rfl ?_ | refine dr_g rfl rfl rfl SaysI.out (fun hc _ => by exact y_len (.opt rfl hc)) rfl ?_ | refine dr_g rfl rfl rfl SaysI.out (fun hc _ => by exact y_lenArr (.opt rfl hc)) rfl ?_ | refine dr_g rfl rfl rfl SaysI.out (fun hc _ => by exact y_strLen (by rfl) (.opt rfl hc)) rfl ?_
          refine dr_g rfl rfl rfl SaysI.out (fun hc _ => by exact y_sub (.opt rfl hc) (.plain rfl) (by first | omega | (simp; omega) | (simp at hc; omega) | (simp at hc ⊢; omega) | (simp; done))) rfl ?_
          first | refine dr_g rfl rfl rfl SaysI.out (fun hc _ => by exact y_indexMap (.opt rfl hc) (.opt rfl hc) rfl (by refine ⟨?_, ?_⟩; (first | omega | (simp; omega) | (simp at hc; omega) | (simp at hc ⊢; omega) | (simp; done)); rfl)) rfl ?_ | refine dr_g rfl rfl rfl SaysI.out (fun hc _ => by exact y_indexT (.opt rfl hc) (.opt rfl hc) (by first | omega | (simp; omega) | (simp at hc; omega) | (simp at hc ⊢; omega) | (simp; done)) (by first | omega | (simp; omega) | (simp at hc; omega) | (simp at hc ⊢; omega) | (simp; done))) rfl ?_ | refine dr_g rfl rfl rfl SaysI.out (fun hc _ => by exact y_index (.opt rfl hc) (.opt rfl hc) (by omega) rfl) rfl ?_ | refine dr_g rfl rfl rfl SaysI.out (fun hc _ => by exact y_indexArr (.opt rfl hc) (.opt rfl hc) rfl (by first | omega | (simp; omega) | (simp at hc; omega) | (simp at hc ⊢; omega) | (simp; done))) rfl ?_
          refine dr_g rfl rfl rfl SaysI.out (fun hc _ => by exact y_loadE (.opt rfl hc) rfl) rfl ?_
          refine dr_g rfl rfl rfl SaysI.out (fun hc _ => by exact y_lss (.opt rfl hc) (.opt rfl hc)) rfl ?_
          refine dr_p (fun _ => by exact y_and (.plain rfl) rfl rfl) rfl ?_
          refine dr_p (fun _ => by exact y_assign (.plain rfl)) rfl ?_
          refine dr_nil ⟨rfl, ?_⟩
          refine awp_cond rfl (fun h4 => ?_) (fun h4 => ?_)
          · skip
            try simp only [decide_eq_true_eq, decide_eq_false_iff_not, Bool.not_eq_true', Bool.not_eq_false', Bool.not_eq_true, Bool.not_eq_false, List.length_map, Int.ofNat_lt, Int.ofNat_le, Bool.or_eq_true, Bool.and_eq_true, Bool.or_eq_false_iff, Bool.and_eq_false_iff] at h4
            refine awp_seq ?_
            refine awp_region ?_
            refine st_p (fun _ => by exact y_assign (.plain rfl)) rfl ?_
            refine aops_nil ?_
            refine awp_ret ?_
            refine retG (.inr rfl) (.cons (.tmp rfl) .nil) (VShift.of1 (AV.Imp.refl _) (.nil _)) ⟨congrArg (fun x : (Int) => (AV.int x)) (show _ = (Sv.check q s e) from ?_), rfl⟩
            unfold Sv.check
            by_cases hk : e.kind = 1 <;> simp_all <;> first | done | omega | exact Sv.last_or (by assumption) | (rw [if_neg (fun ⟨a, b⟩ => by have := Sv.last_or (by assumption) a; omega), if_neg (by omega)])
          · skip
            try simp only [decide_eq_true_eq, decide_eq_false_iff_not, Bool.not_eq_true', Bool.not_eq_false', Bool.not_eq_true, Bool.not_eq_false, List.length_map, Int.ofNat_lt, Int.ofNat_le, Bool.or_eq_true, Bool.and_eq_true, Bool.or_eq_false_iff, Bool.and_eq_false_iff] at h4
            refine awp_seq ?_
            refine awp_seq ?_
            have hcr : e.kind = 1 → 0 ≤ e.child ∧ e.child < s.children.length := fun hk => by
              simp [hk, Sv.win] at * <;> omega
            refine awp_region ?_
            refine st_p (fun _ => by exact y_move (.plain rfl)) rfl ?_
            refine st_p (fun _ => by exact y_move (.plain rfl)) rfl ?_
            refine st_g rfl rfl rfl SaysI.out (fun hc _ => by exact y_fieldPtr (.plain rfl)) rfl ?_
            refine st_g rfl rfl rfl SaysI.out (fun hc _ => by exact y_load (.opt rfl hc) (by first | exact .here | exact k1 | exact k2 | exact k3 | exact k4 | exact k5 | exact k6 | exact k7 | exact k8 | exact k9 | exact k10 | exact k11 | exact k12 | exact k13) rfl) rfl ?_
            refine st_g rfl rfl rfl SaysI.out (fun hc _ => by exact y_fieldPtr (.plain rfl)) rfl ?_
            refine st_g rfl rfl rfl SaysI.out (fun hc _ => by exact y_load (.opt rfl hc) (by first | exact .here | exact k1 | exact k2 | exact k3 | exact k4 | exact k5 | exact k6 | exact k7 | exact k8 | exact k9 | exact k10 | exact k11 | exact k12 | exact k13) rfl) rfl ?_
            refine st_g rfl rfl rfl SaysI.out (fun hc _ => by exact y_indexT (l := s.children) (.opt rfl hc) (.opt rfl hc) (hcr (by simpa using hc)).1 (by have := hcr (by simpa using hc); omega)) rfl ?_
            refine st_g rfl rfl rfl SaysI.out (fun hc _ => by exact y_fieldE (.opt rfl hc) (le_ rfl)) rfl ?_
            refine st_g rfl rfl rfl SaysI.out (fun hc _ => by exact y_loadE (.opt rfl hc) rfl) rfl ?_
            refine st_g rfl rfl rfl SaysI.out (fun hc _ => by exact y_neq (.opt rfl hc) (.plain rfl)) rfl ?_
            refine st_p (fun _ => by exact y_and (.plain rfl) rfl rfl) rfl ?_
            refine st_p (fun _ => by exact y_move (.plain rfl)) rfl ?_
            refine st_g rfl rfl rfl SaysI.out (fun hc _ => by exact y_fieldPtr (.plain rfl)) rfl ?_
            refine st_g rfl rfl rfl SaysI.out (fun hc _ => by exact y_load (.opt rfl hc) (by first | exact .here | exact k1 | exact k2 | exact k3 | exact k4 | exact k5 | exact k6 | exact k7 | exact k8 | exact k9 | exact k10 | exact k11 | exact k12 | exact k13) rfl) rfl ?_
            refine st_g rfl rfl rfl SaysI.out (fun hc _ => by exact y_fieldPtr (.plain rfl)) rfl ?_
            refine st_g rfl rfl rfl SaysI.out (fun hc _ => by exact y_load (.opt rfl hc) (by first | exact .here | exact k1 | exact k2 | exact k3 | exact k4 | exact k5 | exact k6 | exact k7 | exact k8 | exact k9 | exact k10 | exact k11 | exact k12 | exact k13) rfl) rfl ?_
            refine st_g rfl rfl rfl SaysI.out (fun hc _ => by exact y_indexT (l := s.children) (.opt rfl hc) (.opt rfl hc) (hcr (by simp at hc; exact hc.1)).1 (by have := hcr (by simp at hc; exact hc.1); omega)) rfl ?_
            refine st_g rfl rfl rfl SaysI.out (fun hc _ => by exact y_fieldE (.opt rfl hc) (le_ rfl)) rfl ?_
            refine st_g rfl rfl rfl SaysI.out (fun hc _ => by exact y_loadE (.opt rfl hc) rfl) rfl ?_
            refine st_g rfl rfl rfl SaysI.out (fun hc _ => by exact y_neq (.opt rfl hc) (.plain rfl)) rfl ?_
            refine st_p (fun _ => by exact y_and (.plain rfl) rfl rfl) rfl ?_
            refine st_p (fun _ => by exact y_assign (.plain rfl)) rfl ?_
            refine aops_nil ?_
            refine awp_cond rfl (fun h5 => ?_) (fun h5 => ?_)
            · skip
              try simp only [decide_eq_true_eq, decide_eq_false_iff_not, Bool.not_eq_true', Bool.not_eq_false', Bool.not_eq_true, Bool.not_eq_false, List.length_map, Int.ofNat_lt, Int.ofNat_le, Bool.or_eq_true, Bool.and_eq_true, Bool.or_eq_false_iff, Bool.and_eq_false_iff] at h5
              refine awp_skip ?_
              refine awp_cond rfl (fun h6 => ?_) (fun h6 => ?_)
              · skip
                try simp only [decide_eq_true_eq, decide_eq_false_iff_not, Bool.not_eq_true', Bool.not_eq_false', Bool.not_eq_true, Bool.not_eq_false, List.length_map, Int.ofNat_lt, Int.ofNat_le, Bool.or_eq_true, Bool.and_eq_true, Bool.or_eq_false_iff, Bool.and_eq_false_iff] at h6
                refine awp_seq ?_
                refine awp_region ?_
                refine st_p (fun _ => by exact y_assign (.plain rfl)) rfl ?_
                refine aops_nil ?_
                refine awp_ret ?_
                refine retG (.inr rfl) (.cons (.tmp rfl) .nil) (VShift.of1 (AV.Imp.refl _) (.nil _)) ⟨congrArg (fun x : (Int) => (AV.int x)) (show _ = (Sv.check q s e) from ?_), rfl⟩
                unfold Sv.check
                by_cases hk : e.kind = 1 <;> simp_all <;> first | done | omega | exact Sv.last_or (by assumption) | (rw [if_neg (fun ⟨a, b⟩ => by have := Sv.last_or (by assumption) a; omega), if_neg (by omega)])
              · skip
                try simp only [decide_eq_true_eq, decide_eq_false_iff_not, Bool.not_eq_true', Bool.not_eq_false', Bool.not_eq_true, Bool.not_eq_false, List.length_map, Int.ofNat_lt, Int.ofNat_le, Bool.or_eq_true, Bool.and_eq_true, Bool.or_eq_false_iff, Bool.and_eq_false_iff] at h6
                refine awp_skip ?_
                refine awp_seq ?_
                refine awp_region ?_
                refine st_p (fun _ => by exact y_assign (.plain rfl)) rfl ?_
                refine aops_nil ?_
                refine awp_ret ?_
                refine retG (.inr rfl) (.cons (.tmp rfl) .nil) (VShift.of1 (AV.Imp.refl _) (.nil _)) ⟨congrArg (fun x : (Int) => (AV.int x)) (show _ = (Sv.check q s e) from ?_), rfl⟩
                unfold Sv.check
                by_cases hk : e.kind = 1 <;> simp_all <;> first | done | omega | exact Sv.last_or (by assumption) | (rw [if_neg (fun ⟨a, b⟩ => by have := Sv.last_or (by assumption) a; omega), if_neg (by omega)])
            · skip
              try simp only [decide_eq_true_eq, decide_eq_false_iff_not, Bool.not_eq_true', Bool.not_eq_false', Bool.not_eq_true, Bool.not_eq_false, List.length_map, Int.ofNat_lt, Int.ofNat_le, Bool.or_eq_true, Bool.and_eq_true, Bool.or_eq_false_iff, Bool.and_eq_false_iff] at h5
              refine awp_region ?_
              refine st_p (fun _ => by exact y_move (.plain rfl)) rfl ?_
              refine st_p (fun _ => by exact y_not (.plain rfl)) rfl ?_
              refine st_p (fun _ => by exact y_move (.plain rfl)) rfl ?_
              refine st_g rfl rfl rfl SaysI.out (fun hc _ => by exact y_fieldPtr (.plain rfl)) rfl ?_
              refine st_g rfl rfl rfl SaysI.out (fun hc _ => by exact y_load (.opt rfl hc) (by first | exact .here | exact k1 | exact k2 | exact k3 | exact k4 | exact k5 | exact k6 | exact k7 | exact k8 | exact k9 | exact k10 | exact k11 | exact k12 | exact k13) rfl) rfl ?_
              refine st_g rfl rfl rfl SaysI.out (fun hc _ => by exact y_eql (.opt rfl hc) (.plain rfl)) rfl ?_
              refine st_p (fun _ => by exact y_and (.plain rfl) rfl rfl) rfl ?_
              refine st_p (fun _ => by exact y_assign (.plain rfl)) rfl ?_
              refine aops_nil ?_
              refine awp_cond rfl (fun h7 => ?_) (fun h7 => ?_)
              · skip
                try simp only [decide_eq_true_eq, decide_eq_false_iff_not, Bool.not_eq_true', Bool.not_eq_false', Bool.not_eq_true, Bool.not_eq_false, List.length_map, Int.ofNat_lt, Int.ofNat_le, Bool.or_eq_true, Bool.and_eq_true, Bool.or_eq_false_iff, Bool.and_eq_false_iff] at h7
                refine awp_seq ?_
                refine awp_region ?_
                refine st_p (fun _ => by exact y_assign (.plain rfl)) rfl ?_
                refine aops_nil ?_
                refine awp_ret ?_
                refine retG (.inr rfl) (.cons (.tmp rfl) .nil) (VShift.of1 (AV.Imp.refl _) (.nil _)) ⟨congrArg (fun x : (Int) => (AV.int x)) (show _ = (Sv.check q s e) from ?_), rfl⟩
                unfold Sv.check
                by_cases hk : e.kind = 1 <;> simp_all <;> first | done | omega | exact Sv.last_or (by assumption) | (rw [if_neg (fun ⟨a, b⟩ => by have := Sv.last_or (by assumption) a; omega), if_neg (by omega)])
              · skip
                try simp only [decide_eq_true_eq, decide_eq_false_iff_not, Bool.not_eq_true', Bool.not_eq_false', Bool.not_eq_true, Bool.not_eq_false, List.length_map, Int.ofNat_lt, Int.ofNat_le, Bool.or_eq_true, Bool.and_eq_true, Bool.or_eq_false_iff, Bool.and_eq_false_iff] at h7
                refine awp_skip ?_
                refine awp_seq ?_
                refine awp_region ?_
                refine st_p (fun _ => by exact y_assign (.plain rfl)) rfl ?_
                refine aops_nil ?_
                refine awp_ret ?_
                refine retG (.inr rfl) (.cons (.tmp rfl) .nil) (VShift.of1 (AV.Imp.refl _) (.nil _)) ⟨congrArg (fun x : (Int) => (AV.int x)) (show _ = (Sv.check q s e) from ?_), rfl⟩
                unfold Sv.check
                by_cases hk : e.kind = 1 <;> simp_all <;> first | done | omega | exact Sv.last_or (by assumption) | (rw [if_neg (fun ⟨a, b⟩ => by have := Sv.last_or (by assumption) a; omega), if_neg (by omega)])
        · kernel_rfl
    · skip
      try simp only [decide_eq_true_eq, decide_eq_false_iff_not, Bool.not_eq_true', Bool.not_eq_false', Bool.not_eq_true, Bool.not_eq_false, List.length_map, Int.ofNat_lt, Int.ofNat_le, Bool.or_eq_true, Bool.and_eq_true, Bool.or_eq_false_iff, Bool.and_eq_false_iff] at h2
      refine awp_seq ?_
      refine awp_region ?_
      refine st_p (fun _ => by exact y_move (.plain rfl)) rfl ?_
      refine st_p (fun _ => by exact y_not (.plain rfl)) rfl ?_
      refine st_p (fun _ => by exact y_move (.plain rfl)) rfl ?_
      refine st_g rfl rfl rfl SaysI.out (fun hc _ => by exact y_fieldPtr (.plain rfl)) rfl ?_
      refine st_g rfl rfl rfl SaysI.out (fun hc _ => by exact y_load (.opt rfl hc) (by first | exact .here | exact k1 | exact k2 | exact k3 | exact k4 | exact k5 | exact k6 | exact k7 | exact k8 | exact k9 | exact k10 | exact k11 | exact k12 | exact k13) rfl) rfl ?_
      refine st_g rfl rfl rfl SaysI.out (fun hc _ => by exact y_neq (.opt rfl hc) (.plain rfl)) rfl ?_
      refine st_g rfl rfl rfl SaysI.out (fun hc _ => by exact y_move (.opt rfl hc)) rfl ?_
      refine st_g rfl rfl rfl SaysI.out (fun hc _ => by exact y_fieldPtr (.plain rfl)) rfl ?_
      refine st_g rfl rfl rfl SaysI.out (fun hc _ => by exact y_load (.opt rfl hc) (by first | exact .here | exact k1 | exact k2 | exact k3 | exact k4 | exact k5 | exact k6 | exact k7 | exact k8 | exact k9 | exact k10 | exact k11 | exact k12 | exact k13) rfl) rfl ?_
      refine st_g rfl rfl rfl SaysI.out (fun hc _ => by exact y_neq (.opt rfl hc) (.plain rfl)) rfl ?_
      first | refine st_g rfl rfl rfl SaysI.out (fun hc _ => by exact y_or' hc (.opt rfl hc) rfl rfl) rfl ?_ | refine st_g rfl rfl rfl SaysI.out (fun hc _ => by exact y_or (.opt rfl hc) rfl rfl) rfl ?_
      refine st_p (fun _ => by exact y_and (.plain rfl) rfl rfl) rfl ?_
      refine st_p (fun _ => by exact y_assign (.plain rfl)) rfl ?_
      refine aops_nil ?_
      refine awp_cond rfl (fun h8 => ?_) (fun h8 => ?_)
      · skip
        try simp only [decide_eq_true_eq, decide_eq_false_iff_not, Bool.not_eq_true', Bool.not_eq_false', Bool.not_eq_true, Bool.not_eq_false, List.length_map, Int.ofNat_lt, Int.ofNat_le, Bool.or_eq_true, Bool.and_eq_true, Bool.or_eq_false_iff, Bool.and_eq_false_iff] at h8
        refine awp_skip ?_
        refine awp_cond rfl (fun h9 => ?_) (fun h9 => ?_)
        · skip
          try simp only [decide_eq_true_eq, decide_eq_false_iff_not, Bool.not_eq_true', Bool.not_eq_false', Bool.not_eq_true, Bool.not_eq_false, List.length_map, Int.ofNat_lt, Int.ofNat_le, Bool.or_eq_true, Bool.and_eq_true, Bool.or_eq_false_iff, Bool.and_eq_false_iff] at h9
          refine awp_seq ?_
          refine awp_region ?_
          refine st_p (fun _ => by exact y_assign (.plain rfl)) rfl ?_
          refine aops_nil ?_
          refine awp_ret ?_
          refine retG (.inr rfl) (.cons (.tmp rfl) .nil) (VShift.of1 (AV.Imp.refl _) (.nil _)) ⟨congrArg (fun x : (Int) => (AV.int x)) (show _ = (Sv.check q s e) from ?_), rfl⟩
          unfold Sv.check
          by_cases hk : e.kind = 1 <;> simp_all <;> first | done | omega | exact Sv.last_or (by assumption) | (rw [if_neg (fun ⟨a, b⟩ => by have := Sv.last_or (by assumption) a; omega), if_neg (by omega)])
        · skip
          try simp only [decide_eq_true_eq, decide_eq_false_iff_not, Bool.not_eq_true', Bool.not_eq_false', Bool.not_eq_true, Bool.not_eq_false, List.length_map, Int.ofNat_lt, Int.ofNat_le, Bool.or_eq_true, Bool.and_eq_true, Bool.or_eq_false_iff, Bool.and_eq_false_iff] at h9
          refine awp_seq ?_
          refine awp_any0 (ks := [.free, .free, .free, .free, .free, .free, .free, .free, .free, .free, .free, .free, .free, .free, .free, .free, .free, .free]) (by kernel_rfl) (fun K => ?_) ?_
          · skip
            refine dr_p (fun _ => by exact y_fieldPtr (.plain rfl)) rfl ?_
            refine dr_p (fun _ => by exact y_load (.plain rfl) (by first | exact .here | exact k1 | exact k2 | exact k3 | exact k4 | exact k5 | exact k6 | exact k7 | exact k8 | exact k9 | exact k10 | exact k11 | exact k12 | exact k13) rfl) rfl ?_
            first | refine dr_p (fun _ => by exact y_lenN (.plain rfl)) rfl ?_ | refine dr_p (fun _ => by exact y_len (.plain rfl)) rfl ?_ | refine dr_p (fun _ => by exact y_lenArr (.plain rfl)) rfl ?_ | refine dr_p (fun _ => by exact y_strLen (by rfl) (.plain rfl)) rfl ?_
            refine dr_p (fun _ => by exact y_gtr (.plain rfl) (.plain rfl)) rfl ?_
            refine dr_p (fun _ => by exact y_move (.plain rfl)) rfl ?_
            refine dr_g rfl rfl rfl SaysI.out (fun hc _ => by exact y_fieldPtr (.plain rfl)) rfl ?_
            refine dr_g rfl rfl rfl SaysI.out (fun hc _ => by exact y_load (.opt rfl hc) (by first | exact .here | exact k1 | exact k2 | exact k3 | exact k4 | exact k5 | exact k6 | exact k7 | exact k8 | exact k9 | exact k10 | exact k11 | exact k12 | exact k13) rfl) rfl ?_
            refine dr_g rfl rfl rfl SaysI.out (fun hc _ => by exact y_fieldPtr (.plain rfl)) rfl ?_
            refine dr_g rfl rfl rfl SaysI.out (fun hc _ => by exact y_load (.opt rfl hc) (by first | exact .here | exact k1 | exact k2 | exact k3 | exact k4 | exact k5 | exact k6 | exact k7 | exact k8 | exact k9 | exact k10 | exact k11 | exact k12 | exact k13) rfl) rfl ?_
            refine dr_g rfl rfl rfl SaysI.out (fun hc _ => by exact y_fieldPtr (.plain rfl)) rfl ?_
            refine dr_g rfl rfl rfl SaysI.out (fun hc _ => by exact y_load (.opt rfl hc) (by first | exact .here | exact k1 | exact k2 | exact k3 | exact k4 | exact k5 | exact k6 | exact k7 | exact k8 | exact k9 | exact k10 | exact k11 | exact k12 | exact k13) rfl) rfl ?_
            first | refine dr_g rfl rfl rfl SaysI.out (fun hc _ => by exact y_lenN (.opt rfl hc)) rfl ?_ | refine dr_g rfl rfl rfl SaysI.out (fun hc _ => by exact y_len (.opt rfl hc)) rfl ?_ | refine dr_g rfl rfl rfl SaysI.out (fun hc _ => by exact y_lenArr (.opt rfl hc)) rfl ?_ | refine dr_g rfl rfl rfl SaysI.out (fun hc _ => by exact y_strLen (by rfl) (.opt rfl hc)) rfl ?_
            refine dr_g rfl rfl rfl SaysI.out (fun hc _ => by exact y_sub (.opt rfl hc) (.plain rfl) (by first | omega | (simp; omega) | (simp at hc; omega) | (simp at hc ⊢; omega) | (simp; done))) rfl ?_
            first | refine dr_g rfl rfl rfl SaysI.out (fun hc _ => by exact y_indexMap (.opt rfl hc) (.opt rfl hc) rfl (by refine ⟨?_, ?_⟩; (first | omega | (simp; omega) | (simp at hc; omega) | (simp at hc ⊢; omega) | (simp; done)); rfl)) rfl ?_ | refine dr_g rfl rfl rfl SaysI.out (fun hc _ => by exact y_indexT (.opt rfl hc) (.opt rfl hc) (by first | omega | (simp; omega) | (simp at hc; omega) | (simp at hc ⊢; omega) | (simp; done)) (by first | omega | (simp; omega) | (simp at hc; omega) | (simp at hc ⊢; omega) | (simp; done))) rfl ?_ | refine dr_g rfl rfl rfl SaysI.out (fun hc _ => by exact y_index (.opt rfl hc) (.opt rfl hc) (by omega) rfl) rfl ?_ | refine dr_g rfl rfl rfl SaysI.out (fun hc _ => by exact y_indexArr (.opt rfl hc) (.opt rfl hc) rfl (by first | omega | (simp; omega) | (simp at hc; omega) | (simp at hc ⊢; omega) | (simp; done))) rfl ?_
            refine dr_g rfl rfl rfl SaysI.out (fun hc _ => by exact y_loadE (.opt rfl hc) rfl) rfl ?_
            refine dr_g rfl rfl rfl SaysI.out (fun hc _ => by exact y_lss (.opt rfl hc) (.opt rfl hc)) rfl ?_
            refine dr_p (fun _ => by exact y_and (.plain rfl) rfl rfl) rfl ?_
            refine dr_p (fun _ => by exact y_assign (.plain rfl)) rfl ?_
            refine dr_nil ⟨rfl, ?_⟩
            refine awp_cond rfl (fun h10 => ?_) (fun h10 => ?_)
            · skip
              try simp only [decide_eq_true_eq, decide_eq_false_iff_not, Bool.not_eq_true', Bool.not_eq_false', Bool.not_eq_true, Bool.not_eq_false, List.length_map, Int.ofNat_lt, Int.ofNat_le, Bool.or_eq_true, Bool.and_eq_true, Bool.or_eq_false_iff, Bool.and_eq_false_iff] at h10
              refine awp_seq ?_
              refine awp_region ?_
              refine st_p (fun _ => by exact y_assign (.plain rfl)) rfl ?_
              refine aops_nil ?_
              refine awp_ret ?_
              refine retG (.inr rfl) (.cons (.tmp rfl) .nil) (VShift.of1 (AV.Imp.refl _) (.nil _)) ⟨congrArg (fun x : (Int) => (AV.int x)) (show _ = (Sv.check q s e) from ?_), rfl⟩
              unfold Sv.check
              by_cases hk : e.kind = 1 <;> simp_all <;> first | done | omega | exact Sv.last_or (by assumption) | (rw [if_neg (fun ⟨a, b⟩ => by have := Sv.last_or (by assumption) a; omega), if_neg (by omega)])
            · skip
              try simp only [decide_eq_true_eq, decide_eq_false_iff_not, Bool.not_eq_true', Bool.not_eq_false', Bool.not_eq_true, Bool.not_eq_false, List.length_map, Int.ofNat_lt, Int.ofNat_le, Bool.or_eq_true, Bool.and_eq_true, Bool.or_eq_false_iff, Bool.and_eq_false_iff] at h10
              refine awp_seq ?_
              refine awp_seq ?_
              have hcr : e.kind = 1 → 0 ≤ e.child ∧ e.child < s.children.length := fun hk => by
                simp [hk, Sv.win] at * <;> omega
              refine awp_region ?_
              refine st_p (fun _ => by exact y_move (.plain rfl)) rfl ?_
              refine st_p (fun _ => by exact y_move (.plain rfl)) rfl ?_
              refine st_g rfl rfl rfl SaysI.out (fun hc _ => by exact y_fieldPtr (.plain rfl)) rfl ?_
              refine st_g rfl rfl rfl SaysI.out (fun hc _ => by exact y_load (.opt rfl hc) (by first | exact .here | exact k1 | exact k2 | exact k3 | exact k4 | exact k5 | exact k6 | exact k7 | exact k8 | exact k9 | exact k10 | exact k11 | exact k12 | exact k13) rfl) rfl ?_
              refine st_g rfl rfl rfl SaysI.out (fun hc _ => by exact y_fieldPtr (.plain rfl)) rfl ?_
              refine st_g rfl rfl rfl SaysI.out (fun hc _ => by exact y_load (.opt rfl hc) (by first | exact .here | exact k1 | exact k2 | exact k3 | exact k4 | exact k5 | exact k6 | exact k7 | exact k8 | exact k9 | exact k10 | exact k11 | exact k12 | exact k13) rfl) rfl ?_
              refine st_g rfl rfl rfl SaysI.out (fun hc _ => by exact y_indexT (l := s.children) (.opt rfl hc) (.opt rfl hc) (hcr (by simpa using hc)).1 (by have := hcr (by simpa using hc); omega)) rfl ?_
              refine st_g rfl rfl rfl SaysI.out (fun hc _ => by exact y_fieldE (.opt rfl hc) (le_ rfl)) rfl ?_
              refine st_g rfl rfl rfl SaysI.out (fun hc _ => by exact y_loadE (.opt rfl hc) rfl) rfl ?_
              refine st_g rfl rfl rfl SaysI.out (fun hc _ => by exact y_neq (.opt rfl hc) (.plain rfl)) rfl ?_
              refine st_p (fun _ => by exact y_and (.plain rfl) rfl rfl) rfl ?_
              refine st_p (fun _ => by exact y_move (.plain rfl)) rfl ?_
              refine st_g rfl rfl rfl SaysI.out (fun hc _ => by exact y_fieldPtr (.plain rfl)) rfl ?_
              refine st_g rfl rfl rfl SaysI.out (fun hc _ => by exact y_load (.opt rfl hc) (by first | exact .here | exact k1 | exact k2 | exact k3 | exact k4 | exact k5 | exact k6 | exact k7 | exact k8 | exact k9 | exact k10 | exact k11 | exact k12 | exact k13) rfl) rfl ?_
              refine st_g rfl rfl rfl SaysI.out (fun hc _ => by exact y_fieldPtr (.plain rfl)) rfl ?_
              refine st_g rfl rfl rfl SaysI.out (fun hc _ => by exact y_load (.opt rfl hc) (by first | exact .here | exact k1 | exact k2 | exact k3 | exact k4 | exact k5 | exact k6 | exact k7 | exact k8 | exact k9 | exact k10 | exact k11 | exact k12 | exact k13) rfl) rfl ?_
              refine st_g rfl rfl rfl SaysI.out (fun hc _ => by exact y_indexT (l := s.children) (.opt rfl hc) (.opt rfl hc) (hcr (by simp at hc; exact hc.1)).1 (by have := hcr (by simp at hc; exact hc.1); omega)) rfl ?_
              refine st_g rfl rfl rfl SaysI.out (fun hc _ => by exact y_fieldE (.opt rfl hc) (le_ rfl)) rfl ?_
              refine st_g rfl rfl rfl SaysI.out (fun hc _ => by exact y_loadE (.opt rfl hc) rfl) rfl ?_
              refine st_g rfl rfl rfl SaysI.out (fun hc _ => by exact y_neq (.opt rfl hc) (.plain rfl)) rfl ?_
              refine st_p (fun _ => by exact y_and (.plain rfl) rfl rfl) rfl ?_
              refine st_p (fun _ => by exact y_assign (.plain rfl)) rfl ?_
              refine aops_nil ?_
              refine awp_cond rfl (fun h11 => ?_) (fun h11 => ?_)
              · skip
                try simp only [decide_eq_true_eq, decide_eq_false_iff_not, Bool.not_eq_true', Bool.not_eq_false', Bool.not_eq_true, Bool.not_eq_false, List.length_map, Int.ofNat_lt, Int.ofNat_le, Bool.or_eq_true, Bool.and_eq_true, Bool.or_eq_false_iff, Bool.and_eq_false_iff] at h11
                refine awp_skip ?_
                refine awp_cond rfl (fun h12 => ?_) (fun h12 => ?_)
                · skip
                  try simp only [decide_eq_true_eq, decide_eq_false_iff_not, Bool.not_eq_true', Bool.not_eq_false', Bool.not_eq_true, Bool.not_eq_false, List.length_map, Int.ofNat_lt, Int.ofNat_le, Bool.or_eq_true, Bool.and_eq_true, Bool.or_eq_false_iff, Bool.and_eq_false_iff] at h12
                  refine awp_seq ?_
                  refine awp_region ?_
                  refine st_p (fun _ => by exact y_assign (.plain rfl)) rfl ?_
                  refine aops_nil ?_
                  refine awp_ret ?_
                  refine retG (.inr rfl) (.cons (.tmp rfl) .nil) (VShift.of1 (AV.Imp.refl _) (.nil _)) ⟨congrArg (fun x : (Int) => (AV.int x)) (show _ = (Sv.check q s e) from ?_), rfl⟩
                  unfold Sv.check
                  by_cases hk : e.kind = 1 <;> simp_all <;> first | done | omega | exact Sv.last_or (by assumption) | (rw [if_neg (fun ⟨a, b⟩ => by have := Sv.last_or (by assumption) a; omega), if_neg (by omega)])
                · skip
                  try simp only [decide_eq_true_eq, decide_eq_false_iff_not, Bool.not_eq_true', Bool.not_eq_false', Bool.not_eq_true, Bool.not_eq_false, List.length_map, Int.ofNat_lt, Int.ofNat_le, Bool.or_eq_true, Bool.and_eq_true, Bool.or_eq_false_iff, Bool.and_eq_false_iff] at h12
                  refine awp_skip ?_
                  refine awp_seq ?_
                  refine awp_region ?_
                  refine st_p (fun _ => by exact y_assign (.plain rfl)) rfl ?_
                  refine aops_nil ?_
                  refine awp_ret ?_
                  refine retG (.inr rfl) (.cons (.tmp rfl) .nil) (VShift.of1 (AV.Imp.refl _) (.nil _)) ⟨congrArg (fun x : (Int) => (AV.int x)) (show _ = (Sv.check q s e) from ?_), rfl⟩
                  unfold Sv.check
                  by_cases hk : e.kind = 1 <;> simp_all <;> first | done | omega | exact Sv.last_or (by assumption) | (rw [if_neg (fun ⟨a, b⟩ => by have := Sv.last_or (by assumption) a; omega), if_neg (by omega)])
              · skip
                try simp only [decide_eq_true_eq, decide_eq_false_iff_not, Bool.not_eq_true', Bool.not_eq_false', Bool.not_eq_true, Bool.not_eq_false, List.length_map, Int.ofNat_lt, Int.ofNat_le, Bool.or_eq_true, Bool.and_eq_true, Bool.or_eq_false_iff, Bool.and_eq_false_iff] at h11
                refine awp_region ?_
                refine st_p (fun _ => by exact y_move (.plain rfl)) rfl ?_
                refine st_p (fun _ => by exact y_not (.plain rfl)) rfl ?_
                refine st_p (fun _ => by exact y_move (.plain rfl)) rfl ?_
                refine st_g rfl rfl rfl SaysI.out (fun hc _ => by exact y_fieldPtr (.plain rfl)) rfl ?_
                refine st_g rfl rfl rfl SaysI.out (fun hc _ => by exact y_load (.opt rfl hc) (by first | exact .here | exact k1 | exact k2 | exact k3 | exact k4 | exact k5 | exact k6 | exact k7 | exact k8 | exact k9 | exact k10 | exact k11 | exact k12 | exact k13) rfl) rfl ?_
                refine st_g rfl rfl rfl SaysI.out (fun hc _ => by exact y_eql (.opt rfl hc) (.plain rfl)) rfl ?_
                refine st_p (fun _ => by exact y_and (.plain rfl) rfl rfl) rfl ?_
                refine st_p (fun _ => by exact y_assign (.plain rfl)) rfl ?_
                refine aops_nil ?_
                refine awp_cond rfl (fun h13 => ?_) (fun h13 => ?_)
                · skip
                  try simp only [decide_eq_true_eq, decide_eq_false_iff_not, Bool.not_eq_true', Bool.not_eq_false', Bool.not_eq_true, Bool.not_eq_false, List.length_map, Int.ofNat_lt, Int.ofNat_le, Bool.or_eq_true, Bool.and_eq_true, Bool.or_eq_false_iff, Bool.and_eq_false_iff] at h13
                  refine awp_seq ?_
                  refine awp_region ?_
                  refine st_p (fun _ => by exact y_assign (.plain rfl)) rfl ?_
                  refine aops_nil ?_
                  refine awp_ret ?_
                  refine retG (.inr rfl) (.cons (.tmp rfl) .nil) (VShift.of1 (AV.Imp.refl _) (.nil _)) ⟨congrArg (fun x : (Int) => (AV.int x)) (show _ = (Sv.check q s e) from ?_), rfl⟩
                  unfold Sv.check
                  by_cases hk : e.kind = 1 <;> simp_all <;> first | done | omega | exact Sv.last_or (by assumption) | (rw [if_neg (fun ⟨a, b⟩ => by have := Sv.last_or (by assumption) a; omega), if_neg (by omega)])
                · skip
                  try simp only [decide_eq_true_eq, decide_eq_false_iff_not, Bool.not_eq_true', Bool.not_eq_false', Bool.not_eq_true, Bool.not_eq_false, List.length_map, Int.ofNat_lt, Int.ofNat_le, Bool.or_eq_true, Bool.and_eq_true, Bool.or_eq_false_iff, Bool.and_eq_false_iff] at h13
                  refine awp_skip ?_
                  refine awp_seq ?_
                  refine awp_region ?_
                  refine st_p (fun _ => by exact y_assign (.plain rfl)) rfl ?_
                  refine aops_nil ?_
                  refine awp_ret ?_
                  refine retG (.inr rfl) (.cons (.tmp rfl) .nil) (VShift.of1 (AV.Imp.refl _) (.nil _)) ⟨congrArg (fun x : (Int) => (AV.int x)) (show _ = (Sv.check q s e) from ?_), rfl⟩
                  unfold Sv.check
                  by_cases hk : e.kind = 1 <;> simp_all <;> first | done | omega | exact Sv.last_or (by assumption) | (rw [if_neg (fun ⟨a, b⟩ => by have := Sv.last_or (by assumption) a; omega), if_neg (by omega)])
          · kernel_rfl
      · skip
        try simp only [decide_eq_true_eq, decide_eq_false_iff_not, Bool.not_eq_true', Bool.not_eq_false', Bool.not_eq_true, Bool.not_eq_false, List.length_map, Int.ofNat_lt, Int.ofNat_le, Bool.or_eq_true, Bool.and_eq_true, Bool.or_eq_false_iff, Bool.and_eq_false_iff] at h8
        refine awp_region ?_
        refine st_p (fun _ => by exact y_fieldPtr (.plain rfl)) rfl ?_
        refine st_p (fun _ => by exact y_load (.plain rfl) (by first | exact .here | exact k1 | exact k2 | exact k3 | exact k4 | exact k5 | exact k6 | exact k7 | exact k8 | exact k9 | exact k10 | exact k11 | exact k12 | exact k13) rfl) rfl ?_
        refine aops_call (blt_lt rfl) (.plain rfl) (.cons (.plain rfl) (.cons (.plain rfl) (.cons (.plain rfl) .nil))) (ACalls.here (within_c _ _ _) ?_)
        refine st_p (fun _ => by exact y_not (.plain rfl)) rfl ?_
        refine st_p (fun _ => by exact y_assign (.plain rfl)) rfl ?_
        refine aops_nil ?_
        refine awp_cond rfl (fun h14 => ?_) (fun h14 => ?_)
        · skip
          try simp only [decide_eq_true_eq, decide_eq_false_iff_not, Bool.not_eq_true', Bool.not_eq_false', Bool.not_eq_true, Bool.not_eq_false, List.length_map, Int.ofNat_lt, Int.ofNat_le, Bool.or_eq_true, Bool.and_eq_true, Bool.or_eq_false_iff, Bool.and_eq_false_iff] at h14
          refine awp_seq ?_
          refine awp_region ?_
          refine st_p (fun _ => by exact y_assign (.plain rfl)) rfl ?_
          refine aops_nil ?_
          refine awp_ret ?_
          refine retG (.inr rfl) (.cons (.tmp rfl) .nil) (VShift.of1 (AV.Imp.refl _) (.nil _)) ⟨congrArg (fun x : (Int) => (AV.int x)) (show _ = (Sv.check q s e) from ?_), rfl⟩
          unfold Sv.check
          by_cases hk : e.kind = 1 <;> simp_all <;> first | done | omega | exact Sv.last_or (by assumption) | (rw [if_neg (fun ⟨a, b⟩ => by have := Sv.last_or (by assumption) a; omega), if_neg (by omega)])
        · skip
          try simp only [decide_eq_true_eq, decide_eq_false_iff_not, Bool.not_eq_true', Bool.not_eq_false', Bool.not_eq_true, Bool.not_eq_false, List.length_map, Int.ofNat_lt, Int.ofNat_le, Bool.or_eq_true, Bool.and_eq_true, Bool.or_eq_false_iff, Bool.and_eq_false_iff] at h14
          refine awp_seq ?_
          refine awp_any0 (ks := [.free, .free, .free, .free, .free, .free, .free, .free, .free, .free, .free, .free, .free, .free, .free, .free, .free, .free]) (by kernel_rfl) (fun K => ?_) ?_
          · skip
            refine dr_p (fun _ => by exact y_fieldPtr (.plain rfl)) rfl ?_
            refine dr_p (fun _ => by exact y_load (.plain rfl) (by first | exact .here | exact k1 | exact k2 | exact k3 | exact k4 | exact k5 | exact k6 | exact k7 | exact k8 | exact k9 | exact k10 | exact k11 | exact k12 | exact k13) rfl) rfl ?_
            first | refine dr_p (fun _ => by exact y_lenN (.plain rfl)) rfl ?_ | refine dr_p (fun _ => by exact y_len (.plain rfl)) rfl ?_ | refine dr_p (fun _ => by exact y_lenArr (.plain rfl)) rfl ?_ | refine dr_p (fun _ => by exact y_strLen (by rfl) (.plain rfl)) rfl ?_
            refine dr_p (fun _ => by exact y_gtr (.plain rfl) (.plain rfl)) rfl ?_
            refine dr_p (fun _ => by exact y_move (.plain rfl)) rfl ?_
            refine dr_g rfl rfl rfl SaysI.out (fun hc _ => by exact y_fieldPtr (.plain rfl)) rfl ?_
            refine dr_g rfl rfl rfl SaysI.out (fun hc _ => by exact y_load (.opt rfl hc) (by first | exact .here | exact k1 | exact k2 | exact k3 | exact k4 | exact k5 | exact k6 | exact k7 | exact k8 | exact k9 | exact k10 | exact k11 | exact k12 | exact k13) rfl) rfl ?_
            refine dr_g rfl rfl rfl SaysI.out (fun hc _ => by exact y_fieldPtr (.plain rfl)) rfl ?_
            refine dr_g rfl rfl rfl SaysI.out (fun hc _ => by exact y_load (.opt rfl hc) (by first | exact .here | exact k1 | exact k2 | exact k3 | exact k4 | exact k5 | exact k6 | exact k7 | exact k8 | exact k9 | exact k10 | exact k11 | exact k12 | exact k13) rfl) rfl ?_
            refine dr_g rfl rfl rfl SaysI.out (fun hc _ => by exact y_fieldPtr (.plain rfl)) rfl ?_
            refine dr_g rfl rfl rfl SaysI.out (fun hc _ => by exact y_load (.opt rfl hc) (by first | exact .here | exact k1 | exact k2 | exact k3 | exact k4 | exact k5 | exact k6 | exact k7 | exact k8 | exact k9 | exact k10 | exact k11 | exact k12 | exact k13) rfl) rfl ?_
            first | refine dr_g rfl rfl rfl SaysI.out (fun hc _ => by exact y_lenN (.opt rfl hc)) rfl ?_ | refine dr_g rfl rfl rfl SaysI.out (fun hc _ => by exact y_len (.opt rfl hc)) rfl ?_ | refine dr_g rfl rfl rfl SaysI.out (fun hc _ => by exact y_lenArr (.opt rfl hc)) rfl ?_ | refine dr_g rfl rfl rfl SaysI.out (fun hc _ => by exact y_strLen (by rfl) (.opt rfl hc)) rfl ?_
            refine dr_g rfl rfl rfl SaysI.out (fun hc _ => by exact y_sub (.opt rfl hc) (.plain rfl) (by first | omega | (simp; omega) | (simp at hc; omega) | (simp at hc ⊢; omega) | (simp; done))) rfl ?_
            first | refine dr_g rfl rfl rfl SaysI.out (fun hc _ => by exact y_indexMap (.opt rfl hc) (.opt rfl hc) rfl (by refine ⟨?_, ?_⟩; (first | omega | (simp; omega) | (simp at hc; omega) | (simp at hc ⊢; omega) | (simp; done)); rfl)) rfl ?_ | refine dr_g rfl rfl rfl SaysI.out (fun hc _ => by exact y_indexT (.opt rfl hc) (.opt rfl hc) (by first | omega | (simp; omega) | (simp at hc; omega) | (simp at hc ⊢; omega) | (simp; done)) (by first | omega | (simp; omega) | (simp at hc; omega) | (simp at hc ⊢; omega) | (simp; done))) rfl ?_ | refine dr_g rfl rfl rfl SaysI.out (fun hc _ => by exact y_index (.opt rfl hc) (.opt rfl hc) (by omega) rfl) rfl ?_ | refine dr_g rfl rfl rfl SaysI.out (fun hc _ => by exact y_indexArr (.opt rfl hc) (.opt rfl hc) rfl (by first | omega | (simp; omega) | (simp at hc; omega) | (simp at hc ⊢; omega) | (simp; done))) rfl ?_
            refine dr_g rfl rfl rfl SaysI.out (fun hc _ => by exact y_loadE (.opt rfl hc) rfl) rfl ?_
            refine dr_g rfl rfl rfl SaysI.out (fun hc _ => by exact y_lss (.opt rfl hc) (.opt rfl hc)) rfl ?_
            refine dr_p (fun _ => by exact y_and (.plain rfl) rfl rfl) rfl ?_
            refine dr_p (fun _ => by exact y_assign (.plain rfl)) rfl ?_
            refine dr_nil ⟨rfl, ?_⟩
            refine awp_cond rfl (fun h15 => ?_) (fun h15 => ?_)
            · skip
              try simp only [decide_eq_true_eq, decide_eq_false_iff_not, Bool.not_eq_true', Bool.not_eq_false', Bool.not_eq_true, Bool.not_eq_false, List.length_map, Int.ofNat_lt, Int.ofNat_le, Bool.or_eq_true, Bool.and_eq_true, Bool.or_eq_false_iff, Bool.and_eq_false_iff] at h15
              refine awp_seq ?_
              refine awp_region ?_
              refine st_p (fun _ => by exact y_assign (.plain rfl)) rfl ?_
              refine aops_nil ?_
              refine awp_ret ?_
              refine retG (.inr rfl) (.cons (.tmp rfl) .nil) (VShift.of1 (AV.Imp.refl _) (.nil _)) ⟨congrArg (fun x : (Int) => (AV.int x)) (show _ = (Sv.check q s e) from ?_), rfl⟩
              unfold Sv.check
              by_cases hk : e.kind = 1 <;> simp_all <;> first | done | omega | exact Sv.last_or (by assumption) | (rw [if_neg (fun ⟨a, b⟩ => by have := Sv.last_or (by assumption) a; omega), if_neg (by omega)])
            · skip
              try simp only [decide_eq_true_eq, decide_eq_false_iff_not, Bool.not_eq_true', Bool.not_eq_false', Bool.not_eq_true, Bool.not_eq_false, List.length_map, Int.ofNat_lt, Int.ofNat_le, Bool.or_eq_true, Bool.and_eq_true, Bool.or_eq_false_iff, Bool.and_eq_false_iff] at h15
              refine awp_seq ?_
              refine awp_seq ?_
              have hcr : e.kind = 1 → 0 ≤ e.child ∧ e.child < s.children.length := fun hk => by
                simp [hk, Sv.win] at * <;> omega
              refine awp_region ?_
              refine st_p (fun _ => by exact y_move (.plain rfl)) rfl ?_
              refine st_p (fun _ => by exact y_move (.plain rfl)) rfl ?_
              refine st_g rfl rfl rfl SaysI.out (fun hc _ => by exact y_fieldPtr (.plain rfl)) rfl ?_
              refine st_g rfl rfl rfl SaysI.out (fun hc _ => by exact y_load (.opt rfl hc) (by first | exact .here | exact k1 | exact k2 | exact k3 | exact k4 | exact k5 | exact k6 | exact k7 | exact k8 | exact k9 | exact k10 | exact k11 | exact k12 | exact k13) rfl) rfl ?_
              refine st_g rfl rfl rfl SaysI.out (fun hc _ => by exact y_fieldPtr (.plain rfl)) rfl ?_
              refine st_g rfl rfl rfl SaysI.out (fun hc _ => by exact y_load (.opt rfl hc) (by first | exact .here | exact k1 | exact k2 | exact k3 | exact k4 | exact k5 | exact k6 | exact k7 | exact k8 | exact k9 | exact k10 | exact k11 | exact k12 | exact k13) rfl) rfl ?_
              refine st_g rfl rfl rfl SaysI.out (fun hc _ => by exact y_indexT (l := s.children) (.opt rfl hc) (.opt rfl hc) (hcr (by simpa using hc)).1 (by have := hcr (by simpa using hc); omega)) rfl ?_
              refine st_g rfl rfl rfl SaysI.out (fun hc _ => by exact y_fieldE (.opt rfl hc) (le_ rfl)) rfl ?_
              refine st_g rfl rfl rfl SaysI.out (fun hc _ => by exact y_loadE (.opt rfl hc) rfl) rfl ?_
              refine st_g rfl rfl rfl SaysI.out (fun hc _ => by exact y_neq (.opt rfl hc) (.plain rfl)) rfl ?_
              refine st_p (fun _ => by exact y_and (.plain rfl) rfl rfl) rfl ?_
              refine st_p (fun _ => by exact y_move (.plain rfl)) rfl ?_
              refine st_g rfl rfl rfl SaysI.out (fun hc _ => by exact y_fieldPtr (.plain rfl)) rfl ?_
              refine st_g rfl rfl rfl SaysI.out (fun hc _ => by exact y_load (.opt rfl hc) (by first | exact .here | exact k1 | exact k2 | exact k3 | exact k4 | exact k5 | exact k6 | exact k7 | exact k8 | exact k9 | exact k10 | exact k11 | exact k12 | exact k13) rfl) rfl ?_
              refine st_g rfl rfl rfl SaysI.out (fun hc _ => by exact y_fieldPtr (.plain rfl)) rfl ?_
              refine st_g rfl rfl rfl SaysI.out (fun hc _ => by exact y_load (.opt rfl hc) (by first | exact .here | exact k1 | exact k2 | exact k3 | exact k4 | exact k5 | exact k6 | exact k7 | exact k8 | exact k9 | exact k10 | exact k11 | exact k12 | exact k13) rfl) rfl ?_
              refine st_g rfl rfl rfl SaysI.out (fun hc _ => by exact y_indexT (l := s.children) (.opt rfl hc) (.opt rfl hc) (hcr (by simp at hc; exact hc.1)).1 (by have := hcr (by simp at hc; exact hc.1); omega)) rfl ?_
              refine st_g rfl rfl rfl SaysI.out (fun hc _ => by exact y_fieldE (.opt rfl hc) (le_ rfl)) rfl ?_
              refine st_g rfl rfl rfl SaysI.out (fun hc _ => by exact y_loadE (.opt rfl hc) rfl) rfl ?_
              refine st_g rfl rfl rfl SaysI.out (fun hc _ => by exact y_neq (.opt rfl hc) (.plain rfl)) rfl ?_
              refine st_p (fun _ => by exact y_and (.plain rfl) rfl rfl) rfl ?_
              refine st_p (fun _ => by exact y_assign (.plain rfl)) rfl ?_
              refine aops_nil ?_
              refine awp_cond rfl (fun h16 => ?_) (fun h16 => ?_)
              · skip
                try simp only [decide_eq_true_eq, decide_eq_false_iff_not, Bool.not_eq_true', Bool.not_eq_false', Bool.not_eq_true, Bool.not_eq_false, List.length_map, Int.ofNat_lt, Int.ofNat_le, Bool.or_eq_true, Bool.and_eq_true, Bool.or_eq_false_iff, Bool.and_eq_false_iff] at h16
                refine awp_skip ?_
                refine awp_cond rfl (fun h17 => ?_) (fun h17 => ?_)
                · skip
                  try simp only [decide_eq_true_eq, decide_eq_false_iff_not, Bool.not_eq_true', Bool.not_eq_false', Bool.not_eq_true, Bool.not_eq_false, List.length_map, Int.ofNat_lt, Int.ofNat_le, Bool.or_eq_true, Bool.and_eq_true, Bool.or_eq_false_iff, Bool.and_eq_false_iff] at h17
                  refine awp_seq ?_
                  refine awp_region ?_
                  refine st_p (fun _ => by exact y_assign (.plain rfl)) rfl ?_
                  refine aops_nil ?_
                  refine awp_ret ?_
                  refine retG (.inr rfl) (.cons (.tmp rfl) .nil) (VShift.of1 (AV.Imp.refl _) (.nil _)) ⟨congrArg (fun x : (Int) => (AV.int x)) (show _ = (Sv.check q s e) from ?_), rfl⟩
                  unfold Sv.check
                  by_cases hk : e.kind = 1 <;> simp_all <;> first | done | omega | exact Sv.last_or (by assumption) | (rw [if_neg (fun ⟨a, b⟩ => by have := Sv.last_or (by assumption) a; omega), if_neg (by omega)])
                · skip
                  try simp only [decide_eq_true_eq, decide_eq_false_iff_not, Bool.not_eq_true', Bool.not_eq_false', Bool.not_eq_true, Bool.not_eq_false, List.length_map, Int.ofNat_lt, Int.ofNat_le, Bool.or_eq_true, Bool.and_eq_true, Bool.or_eq_false_iff, Bool.and_eq_false_iff] at h17
                  refine awp_skip ?_
                  refine awp_seq ?_
                  refine awp_region ?_
                  refine st_p (fun _ => by exact y_assign (.plain rfl)) rfl ?_
                  refine aops_nil ?_
                  refine awp_ret ?_
                  refine retG (.inr rfl) (.cons (.tmp rfl) .nil) (VShift.of1 (AV.Imp.refl _) (.nil _)) ⟨congrArg (fun x : (Int) => (AV.int x)) (show _ = (Sv.check q s e) from ?_), rfl⟩
                  unfold Sv.check
                  by_cases hk : e.kind = 1 <;> simp_all <;> first | done | omega | exact Sv.last_or (by assumption) | (rw [if_neg (fun ⟨a, b⟩ => by have := Sv.last_or (by assumption) a; omega), if_neg (by omega)])
              · skip
                try simp only [decide_eq_true_eq, decide_eq_false_iff_not, Bool.not_eq_true', Bool.not_eq_false', Bool.not_eq_true, Bool.not_eq_false, List.length_map, Int.ofNat_lt, Int.ofNat_le, Bool.or_eq_true, Bool.and_eq_true, Bool.or_eq_false_iff, Bool.and_eq_false_iff] at h16
                refine awp_region ?_
                refine st_p (fun _ => by exact y_move (.plain rfl)) rfl ?_
                refine st_p (fun _ => by exact y_not (.plain rfl)) rfl ?_
                refine st_p (fun _ => by exact y_move (.plain rfl)) rfl ?_
                refine st_g rfl rfl rfl SaysI.out (fun hc _ => by exact y_fieldPtr (.plain rfl)) rfl ?_
                refine st_g rfl rfl rfl SaysI.out (fun hc _ => by exact y_load (.opt rfl hc) (by first | exact .here | exact k1 | exact k2 | exact k3 | exact k4 | exact k5 | exact k6 | exact k7 | exact k8 | exact k9 | exact k10 | exact k11 | exact k12 | exact k13) rfl) rfl ?_
                refine st_g rfl rfl rfl SaysI.out (fun hc _ => by exact y_eql (.opt rfl hc) (.plain rfl)) rfl ?_
                refine st_p (fun _ => by exact y_and (.plain rfl) rfl rfl) rfl ?_
                refine st_p (fun _ => by exact y_assign (.plain rfl)) rfl ?_
                refine aops_nil ?_
                refine awp_cond rfl (fun h18 => ?_) (fun h18 => ?_)
                · skip
                  try simp only [decide_eq_true_eq, decide_eq_false_iff_not, Bool.not_eq_true', Bool.not_eq_false', Bool.not_eq_true, Bool.not_eq_false, List.length_map, Int.ofNat_lt, Int.ofNat_le, Bool.or_eq_true, Bool.and_eq_true, Bool.or_eq_false_iff, Bool.and_eq_false_iff] at h18
                  refine awp_seq ?_
                  refine awp_region ?_
                  refine st_p (fun _ => by exact y_assign (.plain rfl)) rfl ?_
                  refine aops_nil ?_
                  refine awp_ret ?_
                  refine retG (.inr rfl) (.cons (.tmp rfl) .nil) (VShift.of1 (AV.Imp.refl _) (.nil _)) ⟨congrArg (fun x : (Int) => (AV.int x)) (show _ = (Sv.check q s e) from ?_), rfl⟩
                  unfold Sv.check
                  by_cases hk : e.kind = 1 <;> simp_all <;> first | done | omega | exact Sv.last_or (by assumption) | (rw [if_neg (fun ⟨a, b⟩ => by have := Sv.last_or (by assumption) a; omega), if_neg (by omega)])
                · skip
                  try simp only [decide_eq_true_eq, decide_eq_false_iff_not, Bool.not_eq_true', Bool.not_eq_false', Bool.not_eq_true, Bool.not_eq_false, List.length_map, Int.ofNat_lt, Int.ofNat_le, Bool.or_eq_true, Bool.and_eq_true, Bool.or_eq_false_iff, Bool.and_eq_false_iff] at h18
                  refine awp_skip ?_
                  refine awp_seq ?_
                  refine awp_region ?_
                  refine st_p (fun _ => by exact y_assign (.plain rfl)) rfl ?_
                  refine aops_nil ?_
                  refine awp_ret ?_
                  refine retG (.inr rfl) (.cons (.tmp rfl) .nil) (VShift.of1 (AV.Imp.refl _) (.nil _)) ⟨congrArg (fun x : (Int) => (AV.int x)) (show _ = (Sv.check q s e) from ?_), rfl⟩
                  unfold Sv.check
                  by_cases hk : e.kind = 1 <;> simp_all <;> first | done | omega | exact Sv.last_or (by assumption) | (rw [if_neg (fun ⟨a, b⟩ => by have := Sv.last_or (by assumption) a; omega), if_neg (by omega)])
          · kernel_rfl

theorem cloneA_c (l : List Sv.Cs) (hn : l ≠ []) (hl : l.length ≤ 1000000) : ACalls Try.prog 19 [.sl 2 (l.map encCs)] [] (fun v st => ∃ j pad, v = .arr j 0 l.length ∧ st = [.cells j ((l.map encCs).flatten ++ pad)]) := by
  refine acalls_body Try.func19 (by kernel_rfl) rfl Try.ntmps19 (le_ rfl) ?_
  rw [Try.results19]
  refine awp_seq ?_
  refine awp_region ?_
  refine st_p (fun _ => by exact y_assign (.plain rfl)) rfl ?_
  refine aops_nil ?_
  refine awp_seq ?_
  refine awp_seq ?_
  refine awp_region ?_
  refine st_p (fun _ => by exact y_move (.plain rfl)) rfl ?_
  refine st_p (fun _ => by exact y_eqNilF (.plain rfl) (by simpa using hn)) rfl ?_
  refine aops_nil ?_
  refine awp_cond rfl (fun h1 => ?_) (fun h1 => ?_)
  · skip
    cases h1
  · skip
    try simp only [decide_eq_true_eq, decide_eq_false_iff_not, Bool.not_eq_true', Bool.not_eq_false', Bool.not_eq_true, Bool.not_eq_false, List.length_map, Int.ofNat_lt, Int.ofNat_le, Bool.or_eq_true, Bool.and_eq_true, Bool.or_eq_false_iff, Bool.and_eq_false_iff] at h1
    refine awp_skip ?_
    refine awp_seq ?_
    refine awp_region ?_
    refine st_p (fun _ => by exact y_buildSlice .nil rfl (le_ rfl)) rfl ?_
    refine st_p (fun _ => by exact y_move (.plain rfl)) rfl ?_
    refine st_appendArr (by rfl) (by rfl) (.plain rfl) (.plain rfl) (by simpa using hn) (by simp; omega) rfl fun nj pad => ?_
    refine st_p (fun _ => by exact y_assign (.plain rfl)) rfl ?_
    refine aops_nil ?_
    refine awp_ret ?_
    exact retG (.inr rfl) (.cons (.tmp rfl) .nil) VShift.refl ⟨nj, pad, by rw [List.length_map]; rfl, rfl⟩

theorem set_c (r j : Nat) (l : List Sv.Cs) (pad a0 : List AV) (c v : Int) (hc : 0 ≤ c ∧ c < l.length) (a0 a2 a3 a4 a5 a6 a7 a8 a9 : AV) : ACalls Try.prog 37 [.ptr r 0, .int c, .int v] [.cells r [a0, .arr j 0 l.length, a2, a3, a4, a5, a6, a7, a8, a9], .cells j ((l.map encCs).flatten ++ pad)] (fun y st => st = [.cells r [a0, .arr j 0 l.length, a2, a3, a4, a5, a6, a7, a8, a9], .cells j (((Sv.setL l c v).map encCs).flatten ++ pad)]) := by
  refine acalls_body Try.func37 (by kernel_rfl) rfl Try.ntmps37 (le_ rfl) ?_
  rw [Try.results37]
  have hcl : c.toNat < l.length := by omega
  have hfl := Sv.encCs_len l
  refine awp_region ?_
  refine st_p (fun _ => by exact y_move (.plain rfl)) rfl ?_
  first | refine st_p (fun _ => by exact y_nilPtr (.plain rfl)) rfl ?_ | refine st_p (fun _ => by exact y_nilE (.plain rfl)) rfl ?_
  refine st_p (fun _ => by exact y_fieldPtr (.plain rfl)) rfl ?_
  refine st_p (fun _ => by exact y_fieldPtr (.plain rfl)) rfl ?_
  refine st_p (fun _ => by exact y_load (.plain rfl) (by first | exact .here | exact k1 | exact k2 | exact k3 | exact k4 | exact k5 | exact k6 | exact k7 | exact k8 | exact k9 | exact k10 | exact k11 | exact k12 | exact k13) rfl) rfl ?_
  refine st_p (fun _ => by exact y_move (.plain rfl)) rfl ?_
  refine st_p (fun _ => by exact y_move (.plain rfl)) rfl ?_
  refine st_p (fun _ => by exact y_indexArr (.plain rfl) (.plain rfl) (Int.toNat_of_nonneg hc.1).symm hcl) rfl ?_
  refine st_p (fun _ => by exact y_fieldPtr (.plain rfl)) rfl ?_
  refine st_s (fun _ => by exact y_store (by rfl) rfl (.plain rfl) (.plain rfl) (by first | exact .here | exact u1 | exact u2 | exact u3 | exact u4 | exact u5 | exact u6 | exact u7 | exact u8 | exact u9 | exact u10 | exact u11 | exact u12 | exact u13) (by simp only [List.length_append, hfl, List.length_cons, List.length_nil]; omega)) ?_
  refine aops_nil ?_
  rw [show 0 + c.toNat * 2 + 0 = c.toNat * 2 by omega, encCs_set l c.toNat hcl, show l.set c.toNat ⟨v, l[c.toNat].starts⟩ = Sv.setL l c v by simp [Sv.setL, List.getD, hcl]]
  exact retG (.inl rfl) .nil (VShift.refl) rfl

theorem act_c (r : Nat) (tok : Option Nat) (out : List Sv.Evt) (ho : out.length ≤ 1000000) (k c t : Int) (a0 a1 a2 a3 a4 a5 a6 a7 : AV) : ACalls Try.prog 49 [.ptr r 0, .int k, .int c] [.cells r [a0, a1, a2, a3, a4, a5, a6, a7, .int t, .grow 4 tok (out.map encEv)], .tail tok] (fun y st => ∃ tk, st = [.cells r [a0, a1, a2, a3, a4, a5, a6, a7, .int t, .grow 4 tk ((out ++ [(⟨k, c, 0, t⟩ : Sv.Evt)]).map encEv)], .tail tk]) := by
  refine acalls_body Try.func49 (by kernel_rfl) rfl Try.ntmps49 (le_ rfl) ?_
  rw [Try.results49]
  refine awp_anyT (ks := [.free, .free, .free, .free, .read, .free, .free, .free, .free, .free, .read, .free, .free, .write, .free, .free, .write]) [.tail tok, .cells r _] (by apply Takes.cons (by first | exact .here | exact k1 | exact k2 | exact k3 | exact k4 | exact k5 | exact k6 | exact k7 | exact k8 | exact k9 | exact k10 | exact k11 | exact k12 | exact k13); apply Takes.cons (by first | exact .here | exact k1 | exact k2 | exact k3 | exact k4 | exact k5 | exact k6 | exact k7 | exact k8 | exact k9 | exact k10 | exact k11 | exact k12 | exact k13); exact .nil _) (by kernel_rfl) (fun K => ?_) ?_
  · skip
    refine dr_p (fun _ => by exact y_move (.plain rfl)) rfl ?_
    refine dr_p (fun _ => by exact y_move (.plain rfl)) rfl ?_
    first | refine dr_p (fun _ => by exact y_nilPtr (.plain rfl)) rfl ?_ | refine dr_p (fun _ => by exact y_nilE (.plain rfl)) rfl ?_
    refine dr_p (fun _ => by exact y_fieldPtr (.plain rfl)) rfl ?_
    refine dr_r (fun _ => by exact y_load (.plain rfl) (by first | exact .here | exact k1 | exact k2 | exact k3 | exact k4 | exact k5 | exact k6 | exact k7 | exact k8 | exact k9 | exact k10 | exact k11 | exact k12 | exact k13) rfl) rfl ?_
    refine dr_p (fun _ => by exact y_move (.plain rfl)) rfl ?_
    refine dr_p (fun _ => by exact y_move (.plain rfl)) rfl ?_
    refine dr_p (fun _ => by exact y_move (.plain rfl)) rfl ?_
    first | refine dr_p (fun _ => by exact y_nilPtr (.plain rfl)) rfl ?_ | refine dr_p (fun _ => by exact y_nilE (.plain rfl)) rfl ?_
    refine dr_p (fun _ => by exact y_fieldPtr (.plain rfl)) rfl ?_
    refine dr_r (fun _ => by exact y_load (.plain rfl) (by first | exact .here | exact k1 | exact k2 | exact k3 | exact k4 | exact k5 | exact k6 | exact k7 | exact k8 | exact k9 | exact k10 | exact k11 | exact k12 | exact k13) rfl) rfl ?_
    refine dr_p (fun _ => by exact y_build (out := [_, _, _, _]) (.cons (.plain rfl) inferInstance rfl (.cons (.plain rfl) inferInstance rfl (.cons (.plain rfl) inferInstance rfl .nil))) rfl rfl) rfl ?_
    refine dr_p (fun _ => by exact y_buildSlice (.cons (.plain rfl) inferInstance (by rfl) .nil) rfl (le_ rfl)) rfl ?_
    first | refine dr_append (by rfl) (.plain rfl) (.plain rfl) (by first | (simp; try omega) | omega) rfl fun tA => ?_ | refine dr_append0 (by rfl) (.plain rfl) (.plain rfl) (by first | (simp; try omega) | omega) rfl fun tA => ?_ | refine dr_append0 (by rfl) (.imp (.plain rfl) AV.Imp.nil_grow) (.plain rfl) (by first | (simp; try omega) | omega) rfl fun tA => ?_ | refine dr_append0 (by rfl) (.imp (.plain rfl) AV.Imp.full_grow) (.plain rfl) (by first | (simp; try omega) | omega) rfl fun tA => ?_
    first | refine dr_p (fun _ => by exact y_nilPtr (.plain rfl)) rfl ?_ | refine dr_p (fun _ => by exact y_nilE (.plain rfl)) rfl ?_
    refine dr_p (fun _ => by exact y_fieldPtr (.plain rfl)) rfl ?_
    refine dr_storeN (cs' := [_, _, _, _, _, _, _, _, _, _]) (by rfl) rfl (.plain rfl) (.plain rfl) (by first | exact .here | exact u1 | exact u2 | exact u3 | exact u4 | exact u5 | exact u6 | exact u7 | exact u8 | exact u9 | exact u10 | exact u11 | exact u12 | exact u13) (le_ rfl) (by rfl) ?_
    refine dr_nil ?_
    exact retG (.inl rfl) .nil (VShift.of2 (st' := [.cells r [a0, a1, a2, a3, a4, a5, a6, a7, .int t, .grow 4 tA ((out ++ [(⟨k, c, 0, t⟩ : Sv.Evt)]).map encEv)], .tail tA]) (AV.Imp.refl _) (by (repeat (first | exact .refl _ | exact .nil _ | apply ItLe2.cons (by first | exact .here | exact k1 | exact k2 | exact k3 | exact k4 | exact k5 | exact k6 | exact k7 | exact k8 | exact k9 | exact k10 | exact k11 | exact k12 | exact k13) | apply ItLe2.cells (by first | exact .here | exact k1 | exact k2 | exact k3 | exact k4 | exact k5 | exact k6 | exact k7 | exact k8 | exact k9 | exact k10 | exact k11 | exact k12 | exact k13) (by repeat (first | exact .nil | refine .cons (by first | exact AV.Imp.refl _ | exact AV.Imp.grow_of rfl | exact Sl.imp | exact AV.Imp.agg RowOf.imp | exact AV.Imp.grow_sl | exact AV.Imp.nil_grow | exact AV.Imp.full_grow | exact AV.Imp.own_grow | exact AV.Imp.grow_of rfl | exact AV.Imp.sl_of rfl | exact AV.Imp.int_of (by omega) | exact AV.Imp.of_eq (by first | omega | simpa)) ?_)) | apply ItLe2.tail0)); done)) ⟨tA, rfl⟩
  · kernel_rfl

end Go.Proofs
