/- Refills; the iterator. -/
import Derived.Test.YtbofdjjcabmbcaaC24
import Derived.Test.YtbofdjjcabmbcaaM24
set_option linter.unusedVariables false
set_option linter.unusedSimpArgs false
set_option maxRecDepth 10000
namespace Go.Proofs
open Go.Aw Wl
theorem refilled_c (o : Ob) (s : St) (now : Int) (ho : 1 ≤ o.other) (hz : 0 ≤ o.size ∧ o.size ≤ 100) (hc : 0 ≤ s.count ∧ s.count ≤ o.size) (hn : s.time ≤ now ∧ now ≤ 1099511627776) (ht : 0 ≤ s.time) : ACalls Try.prog 34 [.agg (encO o ++ encS s), .int now] [] (fun v st => v = .agg (encS (Lm.refill o s now)) ∧ st = []) := by
  refine acalls_body Try.func34 (by kernel_rfl) rfl Try.ntmps34 (le_ rfl) ?_
  rw [Try.results34]
  have hk0 := Lm.rf_bd (o := o) (s := s) (now := now) ho hn.1
  obtain ⟨hk1, hk2, hk3, hk4⟩ := hk0
  refine awp_seq ?_
  refine awp_region ?_
  refine st_n (fun _ => by exact y_box (.plain rfl)) rfl fun n1 => ?_
  refine st_n (fun _ => by exact y_alloc) rfl fun n2 => ?_
  refine aops_nil ?_
  refine awp_seq ?_
  refine awp_region ?_
  refine st_p (fun _ => by exact y_fieldPtr (.plain rfl)) rfl ?_
  refine st_p (fun _ => by exact y_loadAggN (cs' := [_, _, _, _, _, _, _, _, _]) (.plain rfl) (by first | exact .here | exact k1 | exact k2 | exact k3 | exact k4 | exact k5 | exact k6 | exact k7 | exact k8 | exact k9 | exact k10 | exact k11 | exact k12 | exact k13) (le_ rfl) (by rfl)) rfl ?_
  refine st_n (fun _ => by exact y_alloc) rfl fun n3 => ?_
  refine st_s (fun _ => by exact y_storeW (by rfl) rfl (.plain rfl) (.plain rfl) (by first | exact .here | exact u1 | exact u2 | exact u3 | exact u4 | exact u5 | exact u6 | exact u7 | exact u8 | exact u9 | exact u10 | exact u11 | exact u12 | exact u13) (by rfl)) ?_
  refine aops_nil ?_
  refine awp_seq ?_
  refine awp_region ?_
  refine st_p (fun _ => by exact y_move (.plain rfl)) rfl ?_
  refine st_p (fun _ => by exact y_fieldPtr (.plain rfl)) rfl ?_
  refine st_p (fun _ => by exact y_load (.plain rfl) (by first | exact .here | exact k1 | exact k2 | exact k3 | exact k4 | exact k5 | exact k6 | exact k7 | exact k8 | exact k9 | exact k10 | exact k11 | exact k12 | exact k13) rfl) rfl ?_
  refine st_p (fun _ => by exact y_sub (.plain rfl) (.plain rfl) (by first | omega | (simp; omega) | (simp at hc; omega) | (simp at hc ⊢; omega) | (simp; done))) rfl ?_
  refine st_p (fun _ => by exact y_fieldPtr (.plain rfl)) rfl ?_
  refine st_p (fun _ => by exact y_fieldPtr (.plain rfl)) rfl ?_
  refine st_p (fun _ => by exact y_load (.plain rfl) (by first | exact .here | exact k1 | exact k2 | exact k3 | exact k4 | exact k5 | exact k6 | exact k7 | exact k8 | exact k9 | exact k10 | exact k11 | exact k12 | exact k13) rfl) rfl ?_
  refine st_p (fun _ => by exact y_quo (.plain rfl) (.plain rfl) (by omega) (by omega)) rfl ?_
  refine st_p (fun _ => by exact y_assign (.plain rfl)) rfl ?_
  refine aops_nil ?_
  refine awp_seq ?_
  refine awp_seq ?_
  refine awp_region ?_
  refine st_p (fun _ => by exact y_fieldPtr (.plain rfl)) rfl ?_
  refine st_p (fun _ => by exact y_load (.plain rfl) (by first | exact .here | exact k1 | exact k2 | exact k3 | exact k4 | exact k5 | exact k6 | exact k7 | exact k8 | exact k9 | exact k10 | exact k11 | exact k12 | exact k13) rfl) rfl ?_
  refine st_p (fun _ => by exact y_move (.plain rfl)) rfl ?_
  refine st_p (fun _ => by exact y_add (.plain rfl) (.plain rfl) (by first | omega | (simp; omega) | (simp at hc; omega) | (simp at hc ⊢; omega) | (simp; done))) rfl ?_
  refine st_p (fun _ => by exact y_fieldPtr (.plain rfl)) rfl ?_
  refine st_p (fun _ => by exact y_fieldPtr (.plain rfl)) rfl ?_
  refine st_p (fun _ => by exact y_load (.plain rfl) (by first | exact .here | exact k1 | exact k2 | exact k3 | exact k4 | exact k5 | exact k6 | exact k7 | exact k8 | exact k9 | exact k10 | exact k11 | exact k12 | exact k13) rfl) rfl ?_
  refine st_p (fun _ => by exact y_geq (.plain rfl) (.plain rfl)) rfl ?_
  refine aops_nil ?_
  refine awp_cond rfl (fun h1 => ?_) (fun h1 => ?_)
  · skip
    try simp only [decide_eq_true_eq, decide_eq_false_iff_not, Bool.not_eq_true', Bool.not_eq_false', Bool.not_eq_true, Bool.not_eq_false, List.length_map, Int.ofNat_lt, Int.ofNat_le, Bool.or_eq_true, Bool.and_eq_true, Bool.or_eq_false_iff, Bool.and_eq_false_iff] at h1
    refine awp_seq ?_
    refine awp_region ?_
    refine st_p (fun _ => by exact y_fieldPtr (.plain rfl)) rfl ?_
    refine st_p (fun _ => by exact y_fieldPtr (.plain rfl)) rfl ?_
    refine st_p (fun _ => by exact y_load (.plain rfl) (by first | exact .here | exact k1 | exact k2 | exact k3 | exact k4 | exact k5 | exact k6 | exact k7 | exact k8 | exact k9 | exact k10 | exact k11 | exact k12 | exact k13) rfl) rfl ?_
    refine st_p (fun _ => by exact y_move (.plain rfl)) rfl ?_
    refine st_p (fun _ => by exact y_fieldPtr (.plain rfl)) rfl ?_
    refine st_storeN (cs' := [_, _, _, _, _, _, _, _, _]) (by rfl) rfl (.plain rfl) (.plain rfl) (by first | exact .here | exact u1 | exact u2 | exact u3 | exact u4 | exact u5 | exact u6 | exact u7 | exact u8 | exact u9 | exact u10 | exact u11 | exact u12 | exact u13) (le_ rfl) (by rfl) ?_
    refine st_p (fun _ => by exact y_fieldPtr (.plain rfl)) rfl ?_
    refine st_storeN (cs' := [_, _, _, _, _, _, _, _, _]) (by rfl) rfl (.plain rfl) (.plain rfl) (by first | exact .here | exact u1 | exact u2 | exact u3 | exact u4 | exact u5 | exact u6 | exact u7 | exact u8 | exact u9 | exact u10 | exact u11 | exact u12 | exact u13) (le_ rfl) (by rfl) ?_
    refine aops_nil ?_
    refine awp_seq ?_
    refine awp_region ?_
    refine st_p (fun _ => by exact y_loadW (.plain rfl) (by first | exact .here | exact k1 | exact k2 | exact k3 | exact k4 | exact k5 | exact k6 | exact k7 | exact k8 | exact k9 | exact k10 | exact k11 | exact k12 | exact k13) (by rfl)) rfl ?_
    refine st_s (fun _ => by exact y_storeW (by rfl) rfl (.plain rfl) (.plain rfl) (by first | exact .here | exact u1 | exact u2 | exact u3 | exact u4 | exact u5 | exact u6 | exact u7 | exact u8 | exact u9 | exact u10 | exact u11 | exact u12 | exact u13) (by rfl)) ?_
    refine aops_nil ?_
    refine awp_ret ?_
    refine retG (.inr rfl) (.cons (res_cellW rfl (by first | exact .here | exact k1 | exact k2 | exact k3 | exact k4 | exact k5 | exact k6 | exact k7 | exact k8 | exact k9 | exact k10 | exact k11 | exact k12 | exact k13) (by rfl)) .nil) (VShift.of1 (AV.Imp.agg (RowOf.imp (enc := encS))) (.nil _)) ⟨congrArg (fun x : (Wl.St) => (AV.agg (encS x))) (show _ = (Lm.refill o s now) from ?_), rfl⟩
    rw [Lm.refill, if_pos (by omega)]
  · skip
    try simp only [decide_eq_true_eq, decide_eq_false_iff_not, Bool.not_eq_true', Bool.not_eq_false', Bool.not_eq_true, Bool.not_eq_false, List.length_map, Int.ofNat_lt, Int.ofNat_le, Bool.or_eq_true, Bool.and_eq_true, Bool.or_eq_false_iff, Bool.and_eq_false_iff] at h1
    refine awp_skip ?_
    refine awp_seq ?_
    refine awp_region ?_
    refine st_p (fun _ => by exact y_fieldPtr (.plain rfl)) rfl ?_
    refine st_p (fun _ => by exact y_load (.plain rfl) (by first | exact .here | exact k1 | exact k2 | exact k3 | exact k4 | exact k5 | exact k6 | exact k7 | exact k8 | exact k9 | exact k10 | exact k11 | exact k12 | exact k13) rfl) rfl ?_
    refine st_p (fun _ => by exact y_move (.plain rfl)) rfl ?_
    refine st_p (fun _ => by exact y_add (.plain rfl) (.plain rfl) (by first | omega | (simp; omega) | (simp at hc; omega) | (simp at hc ⊢; omega) | (simp; done))) rfl ?_
    refine st_p (fun _ => by exact y_fieldPtr (.plain rfl)) rfl ?_
    refine st_storeN (cs' := [_, _, _, _, _, _, _, _, _]) (by rfl) rfl (.plain rfl) (.plain rfl) (by first | exact .here | exact u1 | exact u2 | exact u3 | exact u4 | exact u5 | exact u6 | exact u7 | exact u8 | exact u9 | exact u10 | exact u11 | exact u12 | exact u13) (le_ rfl) (by rfl) ?_
    refine aops_nil ?_
    refine awp_seq ?_
    refine awp_region ?_
    refine st_p (fun _ => by exact y_fieldPtr (.plain rfl)) rfl ?_
    refine st_p (fun _ => by exact y_load (.plain rfl) (by first | exact .here | exact k1 | exact k2 | exact k3 | exact k4 | exact k5 | exact k6 | exact k7 | exact k8 | exact k9 | exact k10 | exact k11 | exact k12 | exact k13) rfl) rfl ?_
    refine st_p (fun _ => by exact y_move (.plain rfl)) rfl ?_
    refine st_p (fun _ => by exact y_fieldPtr (.plain rfl)) rfl ?_
    refine st_p (fun _ => by exact y_fieldPtr (.plain rfl)) rfl ?_
    refine st_p (fun _ => by exact y_load (.plain rfl) (by first | exact .here | exact k1 | exact k2 | exact k3 | exact k4 | exact k5 | exact k6 | exact k7 | exact k8 | exact k9 | exact k10 | exact k11 | exact k12 | exact k13) rfl) rfl ?_
    refine st_p (fun _ => by exact y_mul (.plain rfl) (.plain rfl) (by first | omega | (simp; omega) | (simp at hc; omega) | (simp at hc ⊢; omega) | (simp; done))) rfl ?_
    refine st_p (fun _ => by exact y_add (.plain rfl) (.plain rfl) (by first | omega | (simp; omega) | (simp at hc; omega) | (simp at hc ⊢; omega) | (simp; done))) rfl ?_
    refine st_p (fun _ => by exact y_fieldPtr (.plain rfl)) rfl ?_
    refine st_storeN (cs' := [_, _, _, _, _, _, _, _, _]) (by rfl) rfl (.plain rfl) (.plain rfl) (by first | exact .here | exact u1 | exact u2 | exact u3 | exact u4 | exact u5 | exact u6 | exact u7 | exact u8 | exact u9 | exact u10 | exact u11 | exact u12 | exact u13) (le_ rfl) (by rfl) ?_
    refine aops_nil ?_
    refine awp_seq ?_
    refine awp_region ?_
    refine st_p (fun _ => by exact y_loadW (.plain rfl) (by first | exact .here | exact k1 | exact k2 | exact k3 | exact k4 | exact k5 | exact k6 | exact k7 | exact k8 | exact k9 | exact k10 | exact k11 | exact k12 | exact k13) (by rfl)) rfl ?_
    refine st_s (fun _ => by exact y_storeW (by rfl) rfl (.plain rfl) (.plain rfl) (by first | exact .here | exact u1 | exact u2 | exact u3 | exact u4 | exact u5 | exact u6 | exact u7 | exact u8 | exact u9 | exact u10 | exact u11 | exact u12 | exact u13) (by rfl)) ?_
    refine aops_nil ?_
    refine awp_ret ?_
    refine retG (.inr rfl) (.cons (res_cellW rfl (by first | exact .here | exact k1 | exact k2 | exact k3 | exact k4 | exact k5 | exact k6 | exact k7 | exact k8 | exact k9 | exact k10 | exact k11 | exact k12 | exact k13) (by rfl)) .nil) (VShift.of1 (AV.Imp.agg (RowOf.imp (enc := encS))) (.nil _)) ⟨congrArg (fun x : (Wl.St) => (AV.agg (encS x))) (show _ = (Lm.refill o s now) from ?_), rfl⟩
    rw [Lm.refill, if_neg (by omega)]

theorem refillR_c (o : Ob) (s : St) (now : Int) (ho : 1 ≤ o.other) (hz : 0 ≤ o.size ∧ o.size ≤ 100) (hc : 0 ≤ s.count ∧ s.count ≤ o.size) (hn : s.time ≤ now ∧ now ≤ 1099511627776) (ht : 0 ≤ s.time) : ACalls Try.prog 40 [(AV.agg (encO o)), (AV.agg (encS s)), (AV.int now)] [] (fun v st => v = (AV.agg (encS (Lm.refill o s now))) ∧ st = []) := by
  refine acalls_body Try.func40 (by kernel_rfl) rfl Try.ntmps40 (le_ rfl) ?_
  rw [Try.results40]
  have hk0 := Lm.rf_bd (o := o) (s := s) (now := now) ho hn.1
  obtain ⟨hk1, hk2, hk3, hk4⟩ := hk0
  refine awp_seq ?_
  refine awp_region ?_
  refine st_n (fun _ => by exact y_box (.plain rfl)) rfl fun n1 => ?_
  refine st_n (fun _ => by exact y_box (.plain rfl)) rfl fun n2 => ?_
  refine st_n (fun _ => by exact y_alloc) rfl fun n3 => ?_
  refine aops_nil ?_
  refine awp_seq ?_
  refine awp_region ?_
  refine st_p (fun _ => by exact y_move (.plain rfl)) rfl ?_
  refine st_p (fun _ => by exact y_fieldPtr (.plain rfl)) rfl ?_
  refine st_p (fun _ => by exact y_load (.plain rfl) (by first | exact .here | exact k1 | exact k2 | exact k3 | exact k4 | exact k5 | exact k6 | exact k7 | exact k8 | exact k9 | exact k10 | exact k11 | exact k12 | exact k13) rfl) rfl ?_
  refine st_p (fun _ => by exact y_sub (.plain rfl) (.plain rfl) (by first | omega | (simp; omega) | (simp at hc; omega) | (simp at hc ⊢; omega) | (simp; done))) rfl ?_
  refine st_p (fun _ => by exact y_fieldPtr (.plain rfl)) rfl ?_
  refine st_p (fun _ => by exact y_load (.plain rfl) (by first | exact .here | exact k1 | exact k2 | exact k3 | exact k4 | exact k5 | exact k6 | exact k7 | exact k8 | exact k9 | exact k10 | exact k11 | exact k12 | exact k13) rfl) rfl ?_
  refine st_p (fun _ => by exact y_quo (.plain rfl) (.plain rfl) (by omega) (by omega)) rfl ?_
  refine st_p (fun _ => by exact y_assign (.plain rfl)) rfl ?_
  refine aops_nil ?_
  refine awp_seq ?_
  refine awp_seq ?_
  refine awp_region ?_
  refine st_p (fun _ => by exact y_fieldPtr (.plain rfl)) rfl ?_
  refine st_p (fun _ => by exact y_load (.plain rfl) (by first | exact .here | exact k1 | exact k2 | exact k3 | exact k4 | exact k5 | exact k6 | exact k7 | exact k8 | exact k9 | exact k10 | exact k11 | exact k12 | exact k13) rfl) rfl ?_
  refine st_p (fun _ => by exact y_move (.plain rfl)) rfl ?_
  refine st_p (fun _ => by exact y_add (.plain rfl) (.plain rfl) (by first | omega | (simp; omega) | (simp at hc; omega) | (simp at hc ⊢; omega) | (simp; done))) rfl ?_
  refine st_p (fun _ => by exact y_fieldPtr (.plain rfl)) rfl ?_
  refine st_p (fun _ => by exact y_load (.plain rfl) (by first | exact .here | exact k1 | exact k2 | exact k3 | exact k4 | exact k5 | exact k6 | exact k7 | exact k8 | exact k9 | exact k10 | exact k11 | exact k12 | exact k13) rfl) rfl ?_
  refine st_p (fun _ => by exact y_geq (.plain rfl) (.plain rfl)) rfl ?_
  refine aops_nil ?_
  refine awp_cond rfl (fun h1 => ?_) (fun h1 => ?_)
  · skip
    try simp only [decide_eq_true_eq, decide_eq_false_iff_not, Bool.not_eq_true', Bool.not_eq_false', Bool.not_eq_true, Bool.not_eq_false, List.length_map, Int.ofNat_lt, Int.ofNat_le, Bool.or_eq_true, Bool.and_eq_true, Bool.or_eq_false_iff, Bool.and_eq_false_iff] at h1
    refine awp_seq ?_
    refine awp_region ?_
    refine st_p (fun _ => by exact y_fieldPtr (.plain rfl)) rfl ?_
    refine st_p (fun _ => by exact y_load (.plain rfl) (by first | exact .here | exact k1 | exact k2 | exact k3 | exact k4 | exact k5 | exact k6 | exact k7 | exact k8 | exact k9 | exact k10 | exact k11 | exact k12 | exact k13) rfl) rfl ?_
    refine st_p (fun _ => by exact y_move (.plain rfl)) rfl ?_
    refine st_p (fun _ => by exact y_fieldPtr (.plain rfl)) rfl ?_
    refine st_storeN (cs' := [_, _, _, _, _, _, _, _, _]) (by rfl) rfl (.plain rfl) (.plain rfl) (by first | exact .here | exact u1 | exact u2 | exact u3 | exact u4 | exact u5 | exact u6 | exact u7 | exact u8 | exact u9 | exact u10 | exact u11 | exact u12 | exact u13) (le_ rfl) (by rfl) ?_
    refine st_p (fun _ => by exact y_fieldPtr (.plain rfl)) rfl ?_
    refine st_storeN (cs' := [_, _, _, _, _, _, _, _, _]) (by rfl) rfl (.plain rfl) (.plain rfl) (by first | exact .here | exact u1 | exact u2 | exact u3 | exact u4 | exact u5 | exact u6 | exact u7 | exact u8 | exact u9 | exact u10 | exact u11 | exact u12 | exact u13) (le_ rfl) (by rfl) ?_
    refine aops_nil ?_
    refine awp_seq ?_
    refine awp_region ?_
    refine st_p (fun _ => by exact y_loadW (.plain rfl) (by first | exact .here | exact k1 | exact k2 | exact k3 | exact k4 | exact k5 | exact k6 | exact k7 | exact k8 | exact k9 | exact k10 | exact k11 | exact k12 | exact k13) (by rfl)) rfl ?_
    refine st_s (fun _ => by exact y_storeW (by rfl) rfl (.plain rfl) (.plain rfl) (by first | exact .here | exact u1 | exact u2 | exact u3 | exact u4 | exact u5 | exact u6 | exact u7 | exact u8 | exact u9 | exact u10 | exact u11 | exact u12 | exact u13) (by rfl)) ?_
    refine aops_nil ?_
    refine awp_ret ?_
    refine retG (.inr rfl) (.cons (res_cellW rfl (by first | exact .here | exact k1 | exact k2 | exact k3 | exact k4 | exact k5 | exact k6 | exact k7 | exact k8 | exact k9 | exact k10 | exact k11 | exact k12 | exact k13) (by rfl)) .nil) (VShift.of1 (AV.Imp.agg (RowOf.imp (enc := encS))) (.nil _)) ⟨congrArg (fun x : (Wl.St) => (AV.agg (encS x))) (show _ = (Lm.refill o s now) from ?_), rfl⟩
    rw [Lm.refill, if_pos (by omega)]
  · skip
    try simp only [decide_eq_true_eq, decide_eq_false_iff_not, Bool.not_eq_true', Bool.not_eq_false', Bool.not_eq_true, Bool.not_eq_false, List.length_map, Int.ofNat_lt, Int.ofNat_le, Bool.or_eq_true, Bool.and_eq_true, Bool.or_eq_false_iff, Bool.and_eq_false_iff] at h1
    refine awp_skip ?_
    refine awp_seq ?_
    refine awp_anyT (ks := [.free, .read, .free, .free, .free, .read, .free, .free, .free, .free, .free, .free, .write, .free, .write]) [.cells n2 _] (by apply Takes.cons (by first | exact .here | exact k1 | exact k2 | exact k3 | exact k4 | exact k5 | exact k6 | exact k7 | exact k8 | exact k9 | exact k10 | exact k11 | exact k12 | exact k13); exact .nil _) (by kernel_rfl) (fun K => ?_) ?_
    · skip
      refine dr_p (fun _ => by exact y_fieldPtr (.plain rfl)) rfl ?_
      refine dr_r (fun _ => by exact y_load (.plain rfl) (by first | exact .here | exact k1 | exact k2 | exact k3 | exact k4 | exact k5 | exact k6 | exact k7 | exact k8 | exact k9 | exact k10 | exact k11 | exact k12 | exact k13) rfl) rfl ?_
      refine dr_p (fun _ => by exact y_move (.plain rfl)) rfl ?_
      refine dr_p (fun _ => by exact y_add (.plain rfl) (.plain rfl) (by first | omega | (simp; omega) | (simp at hc; omega) | (simp at hc ⊢; omega) | (simp; done))) rfl ?_
      refine dr_p (fun _ => by exact y_fieldPtr (.plain rfl)) rfl ?_
      refine dr_r (fun _ => by exact y_load (.plain rfl) (by first | exact .here | exact k1 | exact k2 | exact k3 | exact k4 | exact k5 | exact k6 | exact k7 | exact k8 | exact k9 | exact k10 | exact k11 | exact k12 | exact k13) rfl) rfl ?_
      refine dr_p (fun _ => by exact y_move (.plain rfl)) rfl ?_
      refine dr_p (fun _ => by exact y_fieldPtr (.plain rfl)) rfl ?_
      refine dr_p (fun _ => by exact y_load (.plain rfl) (by first | exact .here | exact k1 | exact k2 | exact k3 | exact k4 | exact k5 | exact k6 | exact k7 | exact k8 | exact k9 | exact k10 | exact k11 | exact k12 | exact k13) rfl) rfl ?_
      refine dr_p (fun _ => by exact y_mul (.plain rfl) (.plain rfl) (by first | omega | (simp; omega) | (simp at hc; omega) | (simp at hc ⊢; omega) | (simp; done))) rfl ?_
      refine dr_p (fun _ => by exact y_add (.plain rfl) (.plain rfl) (by first | omega | (simp; omega) | (simp at hc; omega) | (simp at hc ⊢; omega) | (simp; done))) rfl ?_
      refine dr_p (fun _ => by exact y_fieldPtr (.plain rfl)) rfl ?_
      refine dr_storeN (cs' := [_, _, _, _, _, _, _, _, _]) (by rfl) rfl (.plain rfl) (.plain rfl) (by first | exact .here | exact u1 | exact u2 | exact u3 | exact u4 | exact u5 | exact u6 | exact u7 | exact u8 | exact u9 | exact u10 | exact u11 | exact u12 | exact u13) (le_ rfl) (by rfl) ?_
      refine dr_p (fun _ => by exact y_fieldPtr (.plain rfl)) rfl ?_
      refine dr_storeN (cs' := [_, _, _, _, _, _, _, _, _]) (by rfl) rfl (.plain rfl) (.plain rfl) (by first | exact .here | exact u1 | exact u2 | exact u3 | exact u4 | exact u5 | exact u6 | exact u7 | exact u8 | exact u9 | exact u10 | exact u11 | exact u12 | exact u13) (le_ rfl) (by rfl) ?_
      refine dr_nil ?_
      refine awp_seq ?_
      refine awp_region ?_
      refine st_p (fun _ => by exact y_loadW (.plain rfl) (by first | exact .here | exact k1 | exact k2 | exact k3 | exact k4 | exact k5 | exact k6 | exact k7 | exact k8 | exact k9 | exact k10 | exact k11 | exact k12 | exact k13) (by rfl)) rfl ?_
      refine st_s (fun _ => by exact y_storeW (by rfl) rfl (.plain rfl) (.plain rfl) (by first | exact .here | exact u1 | exact u2 | exact u3 | exact u4 | exact u5 | exact u6 | exact u7 | exact u8 | exact u9 | exact u10 | exact u11 | exact u12 | exact u13) (by rfl)) ?_
      refine aops_nil ?_
      refine awp_ret ?_
      refine retG (.inr rfl) (.cons (res_cellW rfl (by first | exact .here | exact k1 | exact k2 | exact k3 | exact k4 | exact k5 | exact k6 | exact k7 | exact k8 | exact k9 | exact k10 | exact k11 | exact k12 | exact k13) (by rfl)) .nil) (VShift.of1 (AV.Imp.agg (RowOf.imp (enc := encS))) (.nil _)) ⟨congrArg (fun x : (Wl.St) => (AV.agg (encS x))) (show _ = (Lm.refill o s now) from ?_), rfl⟩
      rw [Lm.refill, if_neg (by omega)]
    · kernel_rfl

theorem served0_c (s : St) : ACalls Try.prog 35 [.agg (encS s)] [] (fun v st => ∃ i, v = .clo 48 [.ptr i 0] ∧ st = [.cells i (encS s)]) := by
  refine acalls_body Try.func35 (by kernel_rfl) rfl Try.ntmps35 (le_ rfl) ?_
  rw [Try.results35]
  refine awp_seq ?_
  refine awp_region ?_
  refine st_n (fun _ => by exact y_box (.plain rfl)) rfl fun n1 => ?_
  refine st_p (fun _ => by exact y_assign (.plain rfl)) rfl ?_
  refine aops_nil ?_
  refine awp_seq ?_
  refine awp_region ?_
  refine st_p (fun _ => by exact y_makeFunc (.cons (.plain rfl) .nil)) rfl ?_
  refine st_p (fun _ => by exact y_assign (.plain rfl)) rfl ?_
  refine aops_nil ?_
  refine awp_ret ?_
  exact retG (.inr rfl) (.cons (.tmp rfl) .nil) VShift.refl ⟨n1, rfl, rfl⟩

theorem served_c (s : St) (hs : smN 1000000 s) (hb : ∀ k, k ≤ Lm.nS s → 0 ≤ Lm.cnt s.count s.queue k ∧ Lm.cnt s.count s.queue k ≤ 1000) (hv : ∀ w ∈ s.queue, 0 ≤ w.value ∧ w.value ≤ 1000) (i : Nat) (yv : AV) (SP : Nat → List Aw.Item → Prop) (st0 : List Aw.Item) (h0 : SP 0 st0) (h : ∀ k (hk : k < Lm.nS s) (hq : k < s.queue.length) st, SP k st → AYields Try.prog yv [avW s.queue[k], .agg (encS (Lm.serveS s (k + 1)))] st (fun v st' => v = .bool true ∧ SP (k + 1) st')) : ACalls Try.prog 48 [yv, .ptr i 0] (.cells i (encS s) :: st0) (fun v st => ∃ stx, st = .cells i (encS (Lm.serveS s (Lm.nS s))) :: stx ∧ SP (Lm.nS s) stx) := by
  refine acallsX_body Try.func48 (by kernel_rfl) rfl Try.ntmps48 (le_ rfl) ?_
  rw [Try.results48]
  refine awx_block ?_
  refine awx_loop2 (X := Nat × List Aw.Item) (rest := []) [0, 1] (.cons rfl (.cons rfl .nil)) (fun σ x => σ) (fun R x => .cells i (encS (Lm.serveS s x.1)) :: x.2) (fun x => x.1 ≤ s.queue.length ∧ (Lm.nS s = x.1 + Lm.nsv (Lm.cnt s.count s.queue x.1) (s.queue.drop x.1)) ∧ SP x.1 x.2) (fun x => s.queue.length - x.1) (0, st0) (by exact Weak.of2 (by (repeat (first | exact .nil _ | refine .cons rfl (by first | exact AV.Imp.refl _ | exact Sl.imp | exact AV.Imp.agg RowOf.imp | exact AV.Imp.grow_sl | exact AV.Imp.nil_grow | exact AV.Imp.full_grow | exact AV.Imp.own_grow | exact AV.Imp.grow_of rfl | exact AV.Imp.sl_of rfl | exact AV.Imp.int_of (by omega) | exact AV.Imp.of_eq (by first | omega | simpa)) ?_)); done) (by (repeat (first | exact .refl _ | exact .nil _ | apply ItLe2.cons (by first | exact .here | exact k1 | exact k2 | exact k3 | exact k4 | exact k5 | exact k6 | exact k7 | exact k8 | exact k9 | exact k10 | exact k11 | exact k12 | exact k13) | apply ItLe2.cells (by first | exact .here | exact k1 | exact k2 | exact k3 | exact k4 | exact k5 | exact k6 | exact k7 | exact k8 | exact k9 | exact k10 | exact k11 | exact k12 | exact k13) (by repeat (first | exact .nil | refine .cons (by first | exact AV.Imp.refl _ | exact Sl.imp | exact AV.Imp.agg RowOf.imp | exact AV.Imp.grow_sl | exact AV.Imp.nil_grow | exact AV.Imp.full_grow | exact AV.Imp.own_grow | exact AV.Imp.grow_of rfl | exact AV.Imp.sl_of rfl | exact AV.Imp.int_of (by omega) | exact AV.Imp.of_eq (by first | omega | simpa)) ?_)) | apply ItLe2.tail0)); done)) ⟨Nat.zero_le _, (Nat.zero_add _).symm, h0⟩ ?_
  rintro ⟨k, st⟩ ⟨hk, hns, hsp⟩
  simp only at hk hns hsp
  dsimp only
  refine awx_seq ?_
  refine awx_seq ?_
  have hsk := Lm.serveS_sm (k := k) hs
  have hsq := hsk.q
  have hbk : 0 ≤ (Lm.serveS s k).count ∧ (Lm.serveS s k).count ≤ 1000 := hb k (by omega)
  refine awx_anyT (ks := [.free, .free, .free, .free, .free, .free, .free, .free, .free, .free, .free, .free, .free, .free]) [] (.nil _) (by kernel_rfl) rfl (fun K => ?_) ?_
  · skip
    refine dr_p (fun _ => by exact y_fieldPtr (.plain rfl)) rfl ?_
    refine dr_p (fun _ => by exact y_load (.plain rfl) (by first | exact .here | exact k1 | exact k2 | exact k3 | exact k4 | exact k5 | exact k6 | exact k7 | exact k8 | exact k9 | exact k10 | exact k11 | exact k12 | exact k13) rfl) rfl ?_
    first | refine dr_p (fun _ => by exact y_lenN (.plain rfl)) rfl ?_ | refine dr_p (fun _ => by exact y_len (.plain rfl)) rfl ?_ | refine dr_p (fun _ => by exact y_lenArr (.plain rfl)) rfl ?_
    refine dr_p (fun _ => by exact y_gtr (.plain rfl) (.plain rfl)) rfl ?_
    refine dr_p (fun _ => by exact y_move (.plain rfl)) rfl ?_
    refine dr_g rfl rfl rfl SaysI.out (fun hc _ => by exact y_fieldPtr (.plain rfl)) rfl ?_
    refine dr_g rfl rfl rfl SaysI.out (fun hc _ => by exact y_load (.opt rfl hc) (by first | exact .here | exact k1 | exact k2 | exact k3 | exact k4 | exact k5 | exact k6 | exact k7 | exact k8 | exact k9 | exact k10 | exact k11 | exact k12 | exact k13) rfl) rfl ?_
    first | refine dr_g rfl rfl rfl SaysI.out (fun hc _ => by exact y_indexMap (.opt rfl hc) (.plain rfl) rfl (by refine ⟨?_, ?_⟩; (first | omega | (simp; omega) | (simp at hc; omega) | (simp at hc ⊢; omega) | (simp; done)); rfl)) rfl ?_ | refine dr_g rfl rfl rfl SaysI.out (fun hc _ => by exact y_indexT (.opt rfl hc) (.plain rfl) (by first | omega | (simp; omega) | (simp at hc; omega) | (simp at hc ⊢; omega) | (simp; done)) (by first | omega | (simp; omega) | (simp at hc; omega) | (simp at hc ⊢; omega) | (simp; done))) rfl ?_ | refine dr_g rfl rfl rfl SaysI.out (fun hc _ => by exact y_index (.opt rfl hc) (.plain rfl) (by omega) rfl) rfl ?_ | refine dr_g rfl rfl rfl SaysI.out (fun hc _ => by exact y_indexArr (.opt rfl hc) (.plain rfl) rfl (by first | omega | (simp; omega) | (simp at hc; omega) | (simp at hc ⊢; omega) | (simp; done))) rfl ?_
    refine dr_g rfl rfl rfl SaysI.out (fun hc _ => by exact y_fieldE (.opt rfl hc) (le_ rfl)) rfl ?_
    refine dr_g rfl rfl rfl SaysI.out (fun hc _ => by exact y_loadE (.opt rfl hc) rfl) rfl ?_
    refine dr_g rfl rfl rfl SaysI.out (fun hc _ => by exact y_fieldPtr (.plain rfl)) rfl ?_
    refine dr_g rfl rfl rfl SaysI.out (fun hc _ => by exact y_load (.opt rfl hc) (by first | exact .here | exact k1 | exact k2 | exact k3 | exact k4 | exact k5 | exact k6 | exact k7 | exact k8 | exact k9 | exact k10 | exact k11 | exact k12 | exact k13) rfl) rfl ?_
    refine dr_g rfl rfl rfl SaysI.out (fun hc _ => by exact y_leq (.opt rfl hc) (.opt rfl hc)) rfl ?_
    refine dr_p (fun _ => by exact y_and (.plain rfl) rfl rfl) rfl ?_
    refine dr_nil ?_
    refine awx_cond rfl (fun h1 => ?_) (fun h1 => ?_)
    · skip
      try simp only [decide_eq_true_eq, decide_eq_false_iff_not, Bool.not_eq_true', Bool.not_eq_false', Bool.not_eq_true, Bool.not_eq_false, List.length_map, Int.ofNat_lt, Int.ofNat_le, Bool.or_eq_true, Bool.and_eq_true, Bool.or_eq_false_iff, Bool.and_eq_false_iff] at h1
      refine awx_skip ?_
      refine awx_block ?_
      refine awx_seq ?_
      have hkq : k < s.queue.length := by
        have := h1.1
        simp [Lm.serveS] at this
        omega
      have hgo : s.queue[k].value ≤ Lm.cnt s.count s.queue k := by
        have := h1.2
        simpa [Lm.serveS, List.getD, hkq] using this
      have hnx := Lm.nsv_go hkq hgo
      have hvk := hv _ (List.getElem_mem hkq)
      have hx0 : ∀ h : 0 < (Lm.serveS s k).queue.length, (Lm.serveS s k).queue[0] = s.queue[k] := fun h => by simp [Lm.serveS]
      have hx1 : (Lm.serveS s k).count - s.queue[k].value = (Lm.serveS s (k + 1)).count := (Lm.cnt_succ _ _ _ hkq).symm
      have hx2 : List.drop 1 (Lm.serveS s k).queue = (Lm.serveS s (k + 1)).queue := by simp [Lm.serveS]
      refine awx_region rfl ?_
      refine st_p (fun _ => by exact y_fieldPtr (.plain rfl)) rfl ?_
      refine st_p (fun _ => by exact y_load (.plain rfl) (by first | exact .here | exact k1 | exact k2 | exact k3 | exact k4 | exact k5 | exact k6 | exact k7 | exact k8 | exact k9 | exact k10 | exact k11 | exact k12 | exact k13) rfl) rfl ?_
      first | refine st_p (fun _ => by exact y_indexMap (.plain rfl) (.plain rfl) rfl (by refine ⟨?_, ?_⟩; (first | omega | (simp; omega) | (simp at hc; omega) | (simp at hc ⊢; omega) | (simp; done)); rfl)) rfl ?_ | refine st_p (fun _ => by exact y_indexT (.plain rfl) (.plain rfl) (by first | omega | (simp; omega) | (simp at hc; omega) | (simp at hc ⊢; omega) | (simp; done)) (by first | omega | (simp; omega) | (simp at hc; omega) | (simp at hc ⊢; omega) | (simp; done))) rfl ?_ | refine st_p (fun _ => by exact y_index (.plain rfl) (.plain rfl) (by omega) rfl) rfl ?_ | refine st_p (fun _ => by exact y_indexArr (.plain rfl) (.plain rfl) rfl (by first | omega | (simp; omega) | (simp at hc; omega) | (simp at hc ⊢; omega) | (simp; done))) rfl ?_
      refine st_p (v := .agg (encW s.queue[k])) (fun _ => by rw [← hx0 (by omega)]; exact y_loadEW (.plain rfl) (by rfl)) rfl ?_
      refine st_n (fun _ => by exact y_alloc) rfl fun nw => ?_
      refine st_s (fun _ => by exact y_storeW (by rfl) rfl (.plain rfl) (.plain rfl) (by first | exact .here | exact u1 | exact u2 | exact u3 | exact u4 | exact u5 | exact u6 | exact u7 | exact u8 | exact u9 | exact u10 | exact u11 | exact u12 | exact u13) (by rfl)) ?_
      refine aops_nil ?_
      refine awx_seq ?_
      refine awx_region rfl ?_
      refine st_p (fun _ => by exact y_fieldPtr (.plain rfl)) rfl ?_
      refine st_p (fun _ => by exact y_load (.plain rfl) (by first | exact .here | exact k1 | exact k2 | exact k3 | exact k4 | exact k5 | exact k6 | exact k7 | exact k8 | exact k9 | exact k10 | exact k11 | exact k12 | exact k13) rfl) rfl ?_
      first | refine st_p (fun _ => by exact y_sliceLoM (.plain rfl) (.plain rfl) rfl (by first | omega | (simp; omega) | (simp at hc; omega) | (simp at hc ⊢; omega) | (simp; done))) rfl ?_ | refine st_p (fun _ => by exact y_sliceLo (.plain rfl) (.plain rfl) rfl (by first | omega | (simp; omega) | (simp at hc; omega) | (simp at hc ⊢; omega) | (simp; done))) rfl ?_
      refine aops_call (blt_lt rfl) (.plain rfl) (.cons (.imp (.plain rfl) (Sl.imp (enc := encW))) .nil) (ACalls.here (cloneW_c _ (by first | assumption | exact Sm.to (by omega) | exact Sm.q (by omega) | exact Lm.apply_wl (by omega) | exact Lm.withdraw_wl | omega | exact smN.le (by assumption) (by omega) | (simp at hc; omega) | (simp; omega))) ?_)
      refine st_p (fun _ => by exact y_fieldPtr (.plain rfl)) rfl ?_
      refine st_storeN (cs' := [_, _, _, _, _, _, _, _, _]) (by rfl) rfl (.plain rfl) (.plain rfl) (by first | exact .here | exact u1 | exact u2 | exact u3 | exact u4 | exact u5 | exact u6 | exact u7 | exact u8 | exact u9 | exact u10 | exact u11 | exact u12 | exact u13) (le_ rfl) (by rfl) ?_
      refine aops_nil ?_
      refine awx_seq ?_
      refine awx_region rfl ?_
      refine st_p (fun _ => by exact y_fieldPtr (.plain rfl)) rfl ?_
      refine st_p (fun _ => by exact y_load (.plain rfl) (by first | exact .here | exact k1 | exact k2 | exact k3 | exact k4 | exact k5 | exact k6 | exact k7 | exact k8 | exact k9 | exact k10 | exact k11 | exact k12 | exact k13) rfl) rfl ?_
      refine st_p (fun _ => by exact y_fieldPtr (.plain rfl)) rfl ?_
      refine st_p (fun _ => by exact y_load (.plain rfl) (by first | exact .here | exact k1 | exact k2 | exact k3 | exact k4 | exact k5 | exact k6 | exact k7 | exact k8 | exact k9 | exact k10 | exact k11 | exact k12 | exact k13) rfl) rfl ?_
      refine st_p (fun _ => by exact y_sub (.plain rfl) (.plain rfl) (by first | omega | (simp; omega) | (simp at hc; omega) | (simp at hc ⊢; omega) | (simp; done))) rfl ?_
      refine st_p (fun _ => by exact y_fieldPtr (.plain rfl)) rfl ?_
      refine st_storeN (cs' := [_, _, _, _, _, _, _, _, _]) (by rfl) rfl (.plain rfl) (.plain rfl) (by first | exact .here | exact u1 | exact u2 | exact u3 | exact u4 | exact u5 | exact u6 | exact u7 | exact u8 | exact u9 | exact u10 | exact u11 | exact u12 | exact u13) (le_ rfl) (by rfl) ?_
      refine aops_nil ?_
      refine awx_weak (Weak.items2 (st' := Aw.Item.cells nw (encW s.queue[k]) :: Aw.Item.cells i (encS (Lm.serveS s (k + 1))) :: st) (by (repeat (first | exact .refl _ | exact .nil _ | apply ItLe2.cons (by first | exact .here | exact k1 | exact k2 | exact k3 | exact k4 | exact k5 | exact k6 | exact k7 | exact k8 | exact k9 | exact k10 | exact k11 | exact k12 | exact k13) | apply ItLe2.cells (by first | exact .here | exact k1 | exact k2 | exact k3 | exact k4 | exact k5 | exact k6 | exact k7 | exact k8 | exact k9 | exact k10 | exact k11 | exact k12 | exact k13) (by repeat (first | exact .nil | refine .cons (by first | exact AV.Imp.refl _ | exact AV.Imp.of_eq (congrArg AV.int hx1) | exact AV.Imp.of_eq (congrArg slW hx2) | exact Sl.imp | exact AV.Imp.agg RowOf.imp | exact AV.Imp.grow_sl | exact AV.Imp.nil_grow | exact AV.Imp.full_grow | exact AV.Imp.own_grow | exact AV.Imp.grow_of rfl | exact AV.Imp.sl_of rfl | exact AV.Imp.int_of (by omega) | exact AV.Imp.of_eq (by first | omega | simpa)) ?_)) | apply ItLe2.tail0)); done)) ?_
      refine awx_seq ?_
      refine awx_regionYk 3 rfl rfl rfl ?_
      dsimp only [List.take, List.drop]
      refine st_p (fun _ => by exact y_move (.plain rfl)) rfl ?_
      refine st_p (fun _ => by exact y_loadW (.plain rfl) (by first | exact .here | exact k1 | exact k2 | exact k3 | exact k4 | exact k5 | exact k6 | exact k7 | exact k8 | exact k9 | exact k10 | exact k11 | exact k12 | exact k13) (by rfl)) rfl ?_
      refine st_p (fun _ => by exact y_loadW (.plain rfl) (by first | exact .here | exact k1 | exact k2 | exact k3 | exact k4 | exact k5 | exact k6 | exact k7 | exact k8 | exact k9 | exact k10 | exact k11 | exact k12 | exact k13) (by rfl)) rfl ?_
      refine aops_nil ?_
      refine ⟨_, _, rfl, .cons (.plain rfl) (.cons (.plain rfl) .nil), AYields.frame (st1 := st) (st2 := [Aw.Item.cells nw _, Aw.Item.cells i _]) (h k (by omega) hkq st hsp) (List.perm_append_comm (l₁ := [Aw.Item.cells nw _, Aw.Item.cells i _])) ?_⟩
      rintro v st' ⟨rfl, hsp'⟩
      refine aops_weak (Weak.perm (st' := Aw.Item.cells i _ :: Aw.Item.cells nw _ :: st') (List.perm_append_comm.trans (List.Perm.swap _ _ _))) ?_
      refine st_p (fun _ => by exact y_not (.plain rfl)) rfl ?_
      refine aops_nil ?_
      refine awx_cond rfl (fun h2 => ?_) (fun h2 => ?_)
      · skip
        cases h2
      · skip
        try simp only [decide_eq_true_eq, decide_eq_false_iff_not, Bool.not_eq_true', Bool.not_eq_false', Bool.not_eq_true, Bool.not_eq_false, List.length_map, Int.ofNat_lt, Int.ofNat_le, Bool.or_eq_true, Bool.and_eq_true, Bool.or_eq_false_iff, Bool.and_eq_false_iff] at h2
        refine awx_skip ?_
        refine ⟨rfl, ?_⟩
        exact ⟨(k + 1, st'), ⟨by show k + 1 ≤ _; omega, by show Lm.nS s = k + 1 + Lm.nsv (Lm.cnt s.count s.queue (k + 1)) (s.queue.drop (k + 1)); omega, hsp'⟩, by show s.queue.length - (k + 1) < s.queue.length - k; omega, Weak.of2 (by (repeat (first | exact .nil _ | refine .cons rfl (by first | exact AV.Imp.refl _ | exact Sl.imp | exact AV.Imp.agg RowOf.imp | exact AV.Imp.grow_sl | exact AV.Imp.nil_grow | exact AV.Imp.full_grow | exact AV.Imp.own_grow | exact AV.Imp.grow_of rfl | exact AV.Imp.sl_of rfl | exact AV.Imp.int_of (by omega) | exact AV.Imp.of_eq (by first | omega | simpa)) ?_)); done) (.cons .here (.sub (List.sublist_cons_self _ _)))⟩
    · skip
      try simp only [decide_eq_true_eq, decide_eq_false_iff_not, Bool.not_eq_true', Bool.not_eq_false', Bool.not_eq_true, Bool.not_eq_false, List.length_map, Int.ofNat_lt, Int.ofNat_le, Bool.or_eq_true, Bool.and_eq_true, Bool.or_eq_false_iff, Bool.and_eq_false_iff] at h1
      refine awx_exit ?_
      have hst := Lm.nsv_stop (c := s.count) (q := s.queue) (k := k) (fun hkq hle => by
        rcases h1 with h1 | h1
        · simp [Lm.serveS] at h1; omega
        · exact h1 (by simpa [Lm.serveS, List.getD, hkq] using hle))
      obtain rfl : k = Lm.nS s := by omega
      exact retX (.inl rfl) (List.Perm.refl _) .nil VShift.refl ⟨_, rfl, hsp⟩
  · kernel_rfl

end Go.Proofs
