/- CondvarMemory answers true for every input, and its arguments read as they did: the given statement CondvarMemorySaid. No condition. -/
import Derived.Test.YtpbjbnaijbokoaaD18
import Derived.Test.YtpbjbnaijbokoaaRows
set_option linter.unusedVariables false
set_option linter.unusedSimpArgs false
set_option maxRecDepth 10000
namespace Go.Proofs
open Go.Aw Wl
theorem memoryLaw_c (t u : Int) (b : Bool) (ht : 0 ≤ t ∧ t ≤ 255) (hu : 0 ≤ u ∧ u ≤ 255) : ACalls Try.prog 5 [(AV.val (.int .u8 t)), (AV.val (.int .u8 u)), (AV.bool b)] [] (fun v st => v = (AV.bool (true)) ∧ st = []) := by
  refine acalls_body Try.func5 (by kernel_rfl) rfl Try.ntmps5 (le_ rfl) ?_
  rw [Try.results5]
  refine awp_seq ?_
  refine awp_region ?_
  refine st_p (fun _ => by exact y_assign (.plain rfl)) rfl ?_
  refine aops_nil ?_
  refine awp_seq ?_
  refine awp_region ?_
  refine aops_call (blt_lt rfl) (.plain rfl) .nil (ACalls.here (object_c) ?_)
  refine aops_call (blt_lt rfl) (.plain rfl) (.cons (.imp (.plain rfl) (AV.Imp.agg (RowOf.imp (enc := encO)))) .nil) (ACalls.here (new_c _) ?_)
  refine st_p (fun _ => by exact y_move (.plain rfl)) rfl ?_
  refine st_p (fun _ => by exact y_extract (.plain rfl) rfl) rfl ?_
  refine st_p (fun _ => by exact y_extract (.plain rfl) rfl) rfl ?_
  refine st_n (fun _ => by exact y_alloc) rfl fun n1 => ?_
  refine st_s (fun _ => by exact y_storeW (by rfl) rfl (.plain rfl) (.plain rfl) (by first | exact .here | exact u1 | exact u2 | exact u3 | exact u4 | exact u5 | exact u6 | exact u7 | exact u8 | exact u9 | exact u10 | exact u11 | exact u12 | exact u13) (by rfl)) ?_
  refine st_p (fun _ => by exact y_assign (.plain rfl)) rfl ?_
  refine aops_nil ?_
  refine awp_seq ?_
  refine awp_region ?_
  refine st_p (fun _ => by exact y_assign (.plain rfl)) rfl ?_
  refine aops_nil ?_
  refine awp_seq ?_
  refine awp_seq ?_
  refine awp_region ?_
  refine st_p (fun _ => by exact y_move (.plain rfl)) rfl ?_
  refine aops_nil ?_
  refine awp_cond rfl (fun h1 => ?_) (fun h1 => ?_)
  · skip
    try simp only [decide_eq_true_eq, decide_eq_false_iff_not, Bool.not_eq_true', Bool.not_eq_false', Bool.not_eq_true, Bool.not_eq_false, List.length_map, Int.ofNat_lt, Int.ofNat_le, Bool.or_eq_true, Bool.and_eq_true, Bool.or_eq_false_iff, Bool.and_eq_false_iff] at h1
    refine awp_region ?_
    refine st_p (fun _ => by exact y_assign (.plain rfl)) rfl ?_
    refine aops_nil ?_
    refine awp_seq ?_
    refine awp_anyT (ks := [.free, .free, .free, .free, .free, .free, .free, .free, .free, .free, .free, .write, .write, .free]) [] (.nil _) (by kernel_rfl) (fun K => ?_) ?_
    · skip
      refine dr_p (fun _ => by exact y_call (.plain rfl) .nil (ACalls.pure (object_c))) rfl ?_
      refine dr_p (fun _ => by exact y_loadW (.plain rfl) (by first | exact .here | exact k1 | exact k2 | exact k3 | exact k4 | exact k5 | exact k6 | exact k7 | exact k8 | exact k9 | exact k10 | exact k11 | exact k12 | exact k13) (by rfl)) rfl ?_
      refine dr_p (fun _ => by exact y_move (.plain rfl)) rfl ?_
      refine dr_p (fun _ => by exact y_convert (by rfl) (by rfl) (.plain rfl)) rfl ?_
      refine dr_p (fun _ => by exact y_rem (.plain rfl) (.plain rfl) (by omega)) rfl ?_
      refine dr_p (fun _ => by exact y_move (.plain rfl)) rfl ?_
      refine dr_p (fun _ => by exact y_build (out := [_, _, _, _, _]) (.cons (.plain rfl) inferInstance rfl (.cons (.plain rfl) inferInstance rfl .nil)) rfl rfl) rfl ?_
      refine dr_p (fun _ => by exact y_call (.plain rfl) (.cons (.imp (.plain rfl) (AV.Imp.agg (RowOf.imp (enc := encO)))) (.cons (.imp (.plain rfl) (AV.Imp.agg (RowOf.imp (enc := encS)))) (.cons (.imp (.plain rfl) (AV.Imp.agg (RowOf.imp (enc := encC)))) .nil))) (ACalls.pure (apply_c _ _ _ (by first | assumption | exact Sm.to (by omega) | exact Sm.q (by omega) | exact Cv.apply_wl (by omega) | exact Cv.withdraw_wl | omega | exact smN.le (by assumption) (by omega) | (simp only [Cv.waiting, List.length_map]; first | exact Sm.q (by omega) | exact Cv.apply_wl (by omega) | omega) | (simp at hc; omega) | (simp [Cv.waiting]; omega))))) rfl ?_
      refine dr_p (fun _ => by exact y_move (.plain rfl)) rfl ?_
      refine dr_p (fun _ => by exact y_extract (.plain rfl) rfl) rfl ?_
      refine dr_p (fun _ => by exact y_extract (.plain rfl) rfl) rfl ?_
      refine dr_n (fun _ => by exact y_alloc) rfl fun n2 => ?_
      refine dr_s (fun _ => by exact y_storeW (by rfl) rfl (.plain rfl) (.plain rfl) (by first | exact .here | exact u1 | exact u2 | exact u3 | exact u4 | exact u5 | exact u6 | exact u7 | exact u8 | exact u9 | exact u10 | exact u11 | exact u12 | exact u13) (by rfl)) ?_
      refine dr_p (fun _ => by exact y_assign (.plain rfl)) rfl ?_
      refine dr_nil ?_
      refine awp_seq ?_
      refine awp_anyT (ks := [.free, .free, .free, .free, .free, .free, .free, .free, .free, .free, .free, .write, .write, .free]) [] (.nil _) (by kernel_rfl) (fun K => ?_) ?_
      · skip
        refine dr_p (fun _ => by exact y_call (.plain rfl) .nil (ACalls.pure (object_c))) rfl ?_
        refine dr_p (fun _ => by exact y_fieldPtr (.plain rfl)) rfl ?_
        refine dr_p (fun _ => by exact y_loadAggN (cs' := [_, _, _, _, _, _, _, _, _]) (.plain rfl) (by first | exact .here | exact k1 | exact k2 | exact k3 | exact k4 | exact k5 | exact k6 | exact k7 | exact k8 | exact k9 | exact k10 | exact k11 | exact k12 | exact k13) (le_ rfl) (by rfl)) rfl ?_
        refine dr_p (fun _ => by exact y_move (.plain rfl)) rfl ?_
        refine dr_p (fun _ => by exact y_convert (by rfl) (by rfl) (.plain rfl)) rfl ?_
        refine dr_p (fun _ => by exact y_rem (.plain rfl) (.plain rfl) (by omega)) rfl ?_
        refine dr_p (fun _ => by exact y_call (.plain rfl) (.cons (.plain rfl) .nil) (ACalls.pure (wait_c _))) rfl ?_
        refine dr_p (fun _ => by exact y_call (.plain rfl) (.cons (.imp (.plain rfl) (AV.Imp.agg (RowOf.imp (enc := encO)))) (.cons (.imp (.plain rfl) (AV.Imp.agg (RowOf.imp (enc := encS)))) (.cons (.imp (.plain rfl) (AV.Imp.agg (RowOf.imp (enc := encC)))) .nil))) (ACalls.pure (apply_c _ _ _ (by first | assumption | exact Sm.to (by omega) | exact Sm.q (by omega) | exact Cv.apply_wl (by omega) | exact Cv.withdraw_wl | omega | exact smN.le (by assumption) (by omega) | (simp only [Cv.waiting, List.length_map]; first | exact Sm.q (by omega) | exact Cv.apply_wl (by omega) | omega) | (simp at hc; omega) | (simp [Cv.waiting]; omega))))) rfl ?_
        refine dr_p (fun _ => by exact y_move (.plain rfl)) rfl ?_
        refine dr_p (fun _ => by exact y_extract (.plain rfl) rfl) rfl ?_
        refine dr_p (fun _ => by exact y_extract (.plain rfl) rfl) rfl ?_
        refine dr_n (fun _ => by exact y_alloc) rfl fun n3 => ?_
        refine dr_s (fun _ => by exact y_storeW (by rfl) rfl (.plain rfl) (.plain rfl) (by first | exact .here | exact u1 | exact u2 | exact u3 | exact u4 | exact u5 | exact u6 | exact u7 | exact u8 | exact u9 | exact u10 | exact u11 | exact u12 | exact u13) (by rfl)) ?_
        refine dr_p (fun _ => by exact y_assign (.plain rfl)) rfl ?_
        refine dr_nil ?_
        refine awp_seq ?_
        refine awp_region ?_
        refine st_p (fun _ => by exact y_move (.plain rfl)) rfl ?_
        refine st_p (fun _ => by exact y_eql (.plain rfl) (.plain rfl)) rfl ?_
        refine st_p (fun _ => by exact y_move (.plain rfl)) rfl ?_
        refine st_g rfl rfl rfl SaysI.out (fun hc _ => by exact y_move (.plain rfl)) rfl ?_
        refine st_g rfl rfl rfl SaysI.out (fun hc _ => by exact y_eql (.opt rfl hc) (.plain rfl)) rfl ?_
        refine st_p (fun _ => by exact y_and (.plain rfl) rfl rfl) rfl ?_
        refine st_p (fun _ => by exact y_move (.plain rfl)) rfl ?_
        refine st_g rfl rfl rfl SaysI.out (fun hc _ => by exact y_move (.plain rfl)) rfl ?_
        refine st_g rfl rfl rfl SaysI.out (fun hc _ => by exact y_eql (.opt rfl hc) (.plain rfl)) rfl ?_
        refine st_p (fun _ => by exact y_and (.plain rfl) rfl rfl) rfl ?_
        refine st_p (fun _ => by exact y_move (.plain rfl)) rfl ?_
        refine st_g rfl rfl rfl SaysI.out (fun hc _ => by exact y_fieldPtr (.plain rfl)) rfl ?_
        refine st_g rfl rfl rfl SaysI.out (fun hc _ => by exact y_loadAggN (cs' := [_, _, _, _, _, _, _, _, _]) (.opt rfl hc) (by first | exact .here | exact k1 | exact k2 | exact k3 | exact k4 | exact k5 | exact k6 | exact k7 | exact k8 | exact k9 | exact k10 | exact k11 | exact k12 | exact k13) (le_ rfl) (by rfl)) rfl ?_
        refine st_g rfl rfl rfl SaysI.out (fun hc _ => by exact y_loadW (.plain rfl) (by first | exact .here | exact k1 | exact k2 | exact k3 | exact k4 | exact k5 | exact k6 | exact k7 | exact k8 | exact k9 | exact k10 | exact k11 | exact k12 | exact k13) (by rfl)) rfl ?_
        refine st_g rfl rfl rfl SaysI.out (fun hc _ => by exact y_call (.plain rfl) (.cons (.imp (.opt rfl hc) (AV.Imp.agg (RowOf.imp (enc := encS)))) (.cons (.imp (.opt rfl hc) (AV.Imp.agg (RowOf.imp (enc := encS)))) .nil)) (ACalls.pure (same_c _ _ (by first | assumption | exact Sm.to (by omega) | exact Sm.q (by omega) | exact Cv.apply_wl (by omega) | exact Cv.withdraw_wl | omega | exact smN.le (by assumption) (by omega) | (simp only [Cv.waiting, List.length_map]; first | exact Sm.q (by omega) | exact Cv.apply_wl (by omega) | omega) | (simp at hc; omega) | (simp [Cv.waiting]; omega))))) rfl ?_
        refine st_p (fun _ => by exact y_and (.plain rfl) rfl rfl) rfl ?_
        refine st_p (fun _ => by exact y_move (.plain rfl)) rfl ?_
        refine st_g rfl rfl rfl SaysI.out (fun hc _ => by exact y_fieldPtr (.plain rfl)) rfl ?_
        refine st_g rfl rfl rfl SaysI.out (fun hc _ => by exact y_load (.opt rfl hc) (by first | exact .here | exact k1 | exact k2 | exact k3 | exact k4 | exact k5 | exact k6 | exact k7 | exact k8 | exact k9 | exact k10 | exact k11 | exact k12 | exact k13) rfl) rfl ?_
        refine st_g rfl rfl rfl SaysI.out (fun hc _ => by exact y_eql (.opt rfl hc) (.plain rfl)) rfl ?_
        refine st_p (fun _ => by exact y_and (.plain rfl) rfl rfl) rfl ?_
        refine st_p (fun _ => by exact y_move (.plain rfl)) rfl ?_
        refine st_g rfl rfl rfl SaysI.out (fun hc _ => by exact y_fieldPtr (.plain rfl)) rfl ?_
        refine st_g rfl rfl rfl SaysI.out (fun hc _ => by exact y_load (.opt rfl hc) (by first | exact .here | exact k1 | exact k2 | exact k3 | exact k4 | exact k5 | exact k6 | exact k7 | exact k8 | exact k9 | exact k10 | exact k11 | exact k12 | exact k13) rfl) rfl ?_
        refine st_p (fun _ => by exact y_and (.plain rfl) rfl rfl) rfl ?_
        refine st_p (fun _ => by exact y_move (.plain rfl)) rfl ?_
        refine st_g rfl rfl rfl SaysI.out (fun hc _ => by exact y_fieldPtr (.plain rfl)) rfl ?_
        refine st_g rfl rfl rfl SaysI.out (fun hc _ => by exact y_load (.opt rfl hc) (by first | exact .here | exact k1 | exact k2 | exact k3 | exact k4 | exact k5 | exact k6 | exact k7 | exact k8 | exact k9 | exact k10 | exact k11 | exact k12 | exact k13) rfl) rfl ?_
        first | refine st_g rfl rfl rfl SaysI.out (fun hc _ => by exact y_lenN (.opt rfl hc)) rfl ?_ | refine st_g rfl rfl rfl SaysI.out (fun hc _ => by exact y_len (.opt rfl hc)) rfl ?_ | refine st_g rfl rfl rfl SaysI.out (fun hc _ => by exact y_lenArr (.opt rfl hc)) rfl ?_
        refine st_g rfl rfl rfl SaysI.out (fun hc _ => by exact y_eql (.opt rfl hc) (.plain rfl)) rfl ?_
        refine st_p (fun _ => by exact y_and (.plain rfl) rfl rfl) rfl ?_
        refine st_p (fun _ => by exact y_move (.plain rfl)) rfl ?_
        refine st_g rfl rfl rfl SaysI.out (fun hc _ => by exact y_fieldPtr (.plain rfl)) rfl ?_
        refine st_g rfl rfl rfl SaysI.out (fun hc _ => by exact y_load (.opt rfl hc) (by first | exact .here | exact k1 | exact k2 | exact k3 | exact k4 | exact k5 | exact k6 | exact k7 | exact k8 | exact k9 | exact k10 | exact k11 | exact k12 | exact k13) rfl) rfl ?_
        refine st_p (fun _ => by exact y_and (.plain rfl) rfl rfl) rfl ?_
        refine st_p (fun _ => by exact y_move (.plain rfl)) rfl ?_
        refine st_g rfl rfl rfl SaysI.out (fun hc _ => by exact y_fieldPtr (.plain rfl)) rfl ?_
        refine st_g rfl rfl rfl SaysI.out (fun hc _ => by exact y_loadAggN (cs' := [_, _, _, _, _, _, _, _, _]) (.opt rfl hc) (by first | exact .here | exact k1 | exact k2 | exact k3 | exact k4 | exact k5 | exact k6 | exact k7 | exact k8 | exact k9 | exact k10 | exact k11 | exact k12 | exact k13) (le_ rfl) (by rfl)) rfl ?_
        refine st_g rfl rfl rfl SaysI.out (fun hc _ => by exact y_call (.plain rfl) (.cons (.imp (.opt rfl hc) (AV.Imp.agg (RowOf.imp (enc := encS)))) .nil) (ACalls.pure (waiting_c _ (by first | assumption | exact Sm.to (by omega) | exact Sm.q (by omega) | exact Cv.apply_wl (by omega) | exact Cv.withdraw_wl | omega | exact smN.le (by assumption) (by omega) | (simp only [Cv.waiting, List.length_map]; first | exact Sm.q (by omega) | exact Cv.apply_wl (by omega) | omega) | (simp at hc; omega) | (simp [Cv.waiting]; omega))))) rfl ?_
        refine st_g rfl rfl rfl SaysI.out (fun hc _ => by exact y_move (.plain rfl)) rfl ?_
        refine st_g rfl rfl rfl SaysI.out (fun hc _ => by exact y_convert (by rfl) (by rfl) (.opt rfl hc)) rfl ?_
        refine st_g rfl rfl rfl SaysI.out (fun hc _ => by exact y_rem (.opt rfl hc) (.plain rfl) (by omega)) rfl ?_
        refine st_g rfl rfl rfl SaysI.out (fun hc _ => by exact y_buildSlice (.cons (.opt rfl hc) inferInstance (by rfl) .nil) rfl (le_ rfl)) rfl ?_
        refine st_g rfl rfl rfl SaysI.out (fun hc _ => by exact y_call (.plain rfl) (.cons (.imp (.opt rfl hc) (Sl.imp (enc := encI))) (.cons (.imp (.opt rfl hc) (Sl.imp (enc := encI))) .nil)) (ACalls.pure (equalI_c _ _ (by first | assumption | exact Sm.to (by omega) | exact Sm.q (by omega) | exact Cv.apply_wl (by omega) | exact Cv.withdraw_wl | omega | exact smN.le (by assumption) (by omega) | (simp only [Cv.waiting, List.length_map]; first | exact Sm.q (by omega) | exact Cv.apply_wl (by omega) | omega) | (simp at hc; omega) | (simp [Cv.waiting]; omega))))) rfl ?_
        refine st_p (fun _ => by exact y_and (.plain rfl) rfl rfl) rfl ?_
        refine st_p (fun _ => by exact y_move (.plain rfl)) rfl ?_
        refine st_g rfl rfl rfl SaysI.out (fun hc _ => by exact y_call (.plain rfl) .nil (ACalls.pure (awake_c))) rfl ?_
        refine st_p (fun _ => by exact y_and (.plain rfl) rfl rfl) rfl ?_
        refine st_p (fun _ => by exact y_assign (.plain rfl)) rfl ?_
        refine aops_nil ?_
        refine awp_ret ?_
        refine retG (.inr rfl) (.cons (.tmp rfl) .nil) (VShift.of1 (AV.Imp.refl _) (.nil _)) ⟨congrArg (fun x : (Bool) => (AV.bool x)) (show _ = (true) from ?_), rfl⟩
        have e := Cv.memory_law ((IntKind.i64.wrap t).tmod 16) ((IntKind.i64.wrap u).tmod 16) 59 (Cv.tmod16 t ht) (Cv.tmod16 u hu) (by decide)
        obtain ⟨e0, e1, e2, e3, e4, e5, e6, e7, e8⟩ := e
        simp [Cv.waitC] at *
        simp [e0, e1, e2, e3, e4, e5, e6, e7, e8]
      · kernel_rfl
    · kernel_rfl
  · skip
    try simp only [decide_eq_true_eq, decide_eq_false_iff_not, Bool.not_eq_true', Bool.not_eq_false', Bool.not_eq_true, Bool.not_eq_false, List.length_map, Int.ofNat_lt, Int.ofNat_le, Bool.or_eq_true, Bool.and_eq_true, Bool.or_eq_false_iff, Bool.and_eq_false_iff] at h1
    refine awp_skip ?_
    refine awp_seq ?_
    refine awp_anyT (ks := [.free, .free, .free, .free, .free, .free, .free, .free, .free, .free, .free, .write, .write, .free]) [] (.nil _) (by kernel_rfl) (fun K => ?_) ?_
    · skip
      refine dr_p (fun _ => by exact y_call (.plain rfl) .nil (ACalls.pure (object_c))) rfl ?_
      refine dr_p (fun _ => by exact y_loadW (.plain rfl) (by first | exact .here | exact k1 | exact k2 | exact k3 | exact k4 | exact k5 | exact k6 | exact k7 | exact k8 | exact k9 | exact k10 | exact k11 | exact k12 | exact k13) (by rfl)) rfl ?_
      refine dr_p (fun _ => by exact y_move (.plain rfl)) rfl ?_
      refine dr_p (fun _ => by exact y_convert (by rfl) (by rfl) (.plain rfl)) rfl ?_
      refine dr_p (fun _ => by exact y_rem (.plain rfl) (.plain rfl) (by omega)) rfl ?_
      refine dr_p (fun _ => by exact y_move (.plain rfl)) rfl ?_
      refine dr_p (fun _ => by exact y_build (out := [_, _, _, _, _]) (.cons (.plain rfl) inferInstance rfl (.cons (.plain rfl) inferInstance rfl .nil)) rfl rfl) rfl ?_
      refine dr_p (fun _ => by exact y_call (.plain rfl) (.cons (.imp (.plain rfl) (AV.Imp.agg (RowOf.imp (enc := encO)))) (.cons (.imp (.plain rfl) (AV.Imp.agg (RowOf.imp (enc := encS)))) (.cons (.imp (.plain rfl) (AV.Imp.agg (RowOf.imp (enc := encC)))) .nil))) (ACalls.pure (apply_c _ _ _ (by first | assumption | exact Sm.to (by omega) | exact Sm.q (by omega) | exact Cv.apply_wl (by omega) | exact Cv.withdraw_wl | omega | exact smN.le (by assumption) (by omega) | (simp only [Cv.waiting, List.length_map]; first | exact Sm.q (by omega) | exact Cv.apply_wl (by omega) | omega) | (simp at hc; omega) | (simp [Cv.waiting]; omega))))) rfl ?_
      refine dr_p (fun _ => by exact y_move (.plain rfl)) rfl ?_
      refine dr_p (fun _ => by exact y_extract (.plain rfl) rfl) rfl ?_
      refine dr_p (fun _ => by exact y_extract (.plain rfl) rfl) rfl ?_
      refine dr_n (fun _ => by exact y_alloc) rfl fun n4 => ?_
      refine dr_s (fun _ => by exact y_storeW (by rfl) rfl (.plain rfl) (.plain rfl) (by first | exact .here | exact u1 | exact u2 | exact u3 | exact u4 | exact u5 | exact u6 | exact u7 | exact u8 | exact u9 | exact u10 | exact u11 | exact u12 | exact u13) (by rfl)) ?_
      refine dr_p (fun _ => by exact y_assign (.plain rfl)) rfl ?_
      refine dr_nil ?_
      refine awp_seq ?_
      refine awp_anyT (ks := [.free, .free, .free, .free, .free, .free, .free, .free, .free, .free, .free, .write, .write, .free]) [] (.nil _) (by kernel_rfl) (fun K => ?_) ?_
      · skip
        refine dr_p (fun _ => by exact y_call (.plain rfl) .nil (ACalls.pure (object_c))) rfl ?_
        refine dr_p (fun _ => by exact y_fieldPtr (.plain rfl)) rfl ?_
        refine dr_p (fun _ => by exact y_loadAggN (cs' := [_, _, _, _, _, _, _, _, _]) (.plain rfl) (by first | exact .here | exact k1 | exact k2 | exact k3 | exact k4 | exact k5 | exact k6 | exact k7 | exact k8 | exact k9 | exact k10 | exact k11 | exact k12 | exact k13) (le_ rfl) (by rfl)) rfl ?_
        refine dr_p (fun _ => by exact y_move (.plain rfl)) rfl ?_
        refine dr_p (fun _ => by exact y_convert (by rfl) (by rfl) (.plain rfl)) rfl ?_
        refine dr_p (fun _ => by exact y_rem (.plain rfl) (.plain rfl) (by omega)) rfl ?_
        refine dr_p (fun _ => by exact y_call (.plain rfl) (.cons (.plain rfl) .nil) (ACalls.pure (wait_c _))) rfl ?_
        refine dr_p (fun _ => by exact y_call (.plain rfl) (.cons (.imp (.plain rfl) (AV.Imp.agg (RowOf.imp (enc := encO)))) (.cons (.imp (.plain rfl) (AV.Imp.agg (RowOf.imp (enc := encS)))) (.cons (.imp (.plain rfl) (AV.Imp.agg (RowOf.imp (enc := encC)))) .nil))) (ACalls.pure (apply_c _ _ _ (by first | assumption | exact Sm.to (by omega) | exact Sm.q (by omega) | exact Cv.apply_wl (by omega) | exact Cv.withdraw_wl | omega | exact smN.le (by assumption) (by omega) | (simp only [Cv.waiting, List.length_map]; first | exact Sm.q (by omega) | exact Cv.apply_wl (by omega) | omega) | (simp at hc; omega) | (simp [Cv.waiting]; omega))))) rfl ?_
        refine dr_p (fun _ => by exact y_move (.plain rfl)) rfl ?_
        refine dr_p (fun _ => by exact y_extract (.plain rfl) rfl) rfl ?_
        refine dr_p (fun _ => by exact y_extract (.plain rfl) rfl) rfl ?_
        refine dr_n (fun _ => by exact y_alloc) rfl fun n5 => ?_
        refine dr_s (fun _ => by exact y_storeW (by rfl) rfl (.plain rfl) (.plain rfl) (by first | exact .here | exact u1 | exact u2 | exact u3 | exact u4 | exact u5 | exact u6 | exact u7 | exact u8 | exact u9 | exact u10 | exact u11 | exact u12 | exact u13) (by rfl)) ?_
        refine dr_p (fun _ => by exact y_assign (.plain rfl)) rfl ?_
        refine dr_nil ?_
        refine awp_seq ?_
        refine awp_region ?_
        refine st_p (fun _ => by exact y_move (.plain rfl)) rfl ?_
        refine st_p (fun _ => by exact y_eql (.plain rfl) (.plain rfl)) rfl ?_
        refine st_p (fun _ => by exact y_move (.plain rfl)) rfl ?_
        refine st_g rfl rfl rfl SaysI.out (fun hc _ => by exact y_move (.plain rfl)) rfl ?_
        refine st_g rfl rfl rfl SaysI.out (fun hc _ => by exact y_eql (.opt rfl hc) (.plain rfl)) rfl ?_
        refine st_p (fun _ => by exact y_and (.plain rfl) rfl rfl) rfl ?_
        refine st_p (fun _ => by exact y_move (.plain rfl)) rfl ?_
        refine st_g rfl rfl rfl SaysI.out (fun hc _ => by exact y_move (.plain rfl)) rfl ?_
        refine st_g rfl rfl rfl SaysI.out (fun hc _ => by exact y_eql (.opt rfl hc) (.plain rfl)) rfl ?_
        refine st_p (fun _ => by exact y_and (.plain rfl) rfl rfl) rfl ?_
        refine st_p (fun _ => by exact y_move (.plain rfl)) rfl ?_
        refine st_g rfl rfl rfl SaysI.out (fun hc _ => by exact y_fieldPtr (.plain rfl)) rfl ?_
        refine st_g rfl rfl rfl SaysI.out (fun hc _ => by exact y_loadAggN (cs' := [_, _, _, _, _, _, _, _, _]) (.opt rfl hc) (by first | exact .here | exact k1 | exact k2 | exact k3 | exact k4 | exact k5 | exact k6 | exact k7 | exact k8 | exact k9 | exact k10 | exact k11 | exact k12 | exact k13) (le_ rfl) (by rfl)) rfl ?_
        refine st_g rfl rfl rfl SaysI.out (fun hc _ => by exact y_loadW (.plain rfl) (by first | exact .here | exact k1 | exact k2 | exact k3 | exact k4 | exact k5 | exact k6 | exact k7 | exact k8 | exact k9 | exact k10 | exact k11 | exact k12 | exact k13) (by rfl)) rfl ?_
        refine st_g rfl rfl rfl SaysI.out (fun hc _ => by exact y_call (.plain rfl) (.cons (.imp (.opt rfl hc) (AV.Imp.agg (RowOf.imp (enc := encS)))) (.cons (.imp (.opt rfl hc) (AV.Imp.agg (RowOf.imp (enc := encS)))) .nil)) (ACalls.pure (same_c _ _ (by first | assumption | exact Sm.to (by omega) | exact Sm.q (by omega) | exact Cv.apply_wl (by omega) | exact Cv.withdraw_wl | omega | exact smN.le (by assumption) (by omega) | (simp only [Cv.waiting, List.length_map]; first | exact Sm.q (by omega) | exact Cv.apply_wl (by omega) | omega) | (simp at hc; omega) | (simp [Cv.waiting]; omega))))) rfl ?_
        refine st_p (fun _ => by exact y_and (.plain rfl) rfl rfl) rfl ?_
        refine st_p (fun _ => by exact y_move (.plain rfl)) rfl ?_
        refine st_g rfl rfl rfl SaysI.out (fun hc _ => by exact y_fieldPtr (.plain rfl)) rfl ?_
        refine st_g rfl rfl rfl SaysI.out (fun hc _ => by exact y_load (.opt rfl hc) (by first | exact .here | exact k1 | exact k2 | exact k3 | exact k4 | exact k5 | exact k6 | exact k7 | exact k8 | exact k9 | exact k10 | exact k11 | exact k12 | exact k13) rfl) rfl ?_
        refine st_g rfl rfl rfl SaysI.out (fun hc _ => by exact y_eql (.opt rfl hc) (.plain rfl)) rfl ?_
        refine st_p (fun _ => by exact y_and (.plain rfl) rfl rfl) rfl ?_
        refine st_p (fun _ => by exact y_move (.plain rfl)) rfl ?_
        refine st_g rfl rfl rfl SaysI.out (fun hc _ => by exact y_fieldPtr (.plain rfl)) rfl ?_
        refine st_g rfl rfl rfl SaysI.out (fun hc _ => by exact y_load (.opt rfl hc) (by first | exact .here | exact k1 | exact k2 | exact k3 | exact k4 | exact k5 | exact k6 | exact k7 | exact k8 | exact k9 | exact k10 | exact k11 | exact k12 | exact k13) rfl) rfl ?_
        refine st_p (fun _ => by exact y_and (.plain rfl) rfl rfl) rfl ?_
        refine st_p (fun _ => by exact y_move (.plain rfl)) rfl ?_
        refine st_g rfl rfl rfl SaysI.out (fun hc _ => by exact y_fieldPtr (.plain rfl)) rfl ?_
        refine st_g rfl rfl rfl SaysI.out (fun hc _ => by exact y_load (.opt rfl hc) (by first | exact .here | exact k1 | exact k2 | exact k3 | exact k4 | exact k5 | exact k6 | exact k7 | exact k8 | exact k9 | exact k10 | exact k11 | exact k12 | exact k13) rfl) rfl ?_
        first | refine st_g rfl rfl rfl SaysI.out (fun hc _ => by exact y_lenN (.opt rfl hc)) rfl ?_ | refine st_g rfl rfl rfl SaysI.out (fun hc _ => by exact y_len (.opt rfl hc)) rfl ?_ | refine st_g rfl rfl rfl SaysI.out (fun hc _ => by exact y_lenArr (.opt rfl hc)) rfl ?_
        refine st_g rfl rfl rfl SaysI.out (fun hc _ => by exact y_eql (.opt rfl hc) (.plain rfl)) rfl ?_
        refine st_p (fun _ => by exact y_and (.plain rfl) rfl rfl) rfl ?_
        refine st_p (fun _ => by exact y_move (.plain rfl)) rfl ?_
        refine st_g rfl rfl rfl SaysI.out (fun hc _ => by exact y_fieldPtr (.plain rfl)) rfl ?_
        refine st_g rfl rfl rfl SaysI.out (fun hc _ => by exact y_load (.opt rfl hc) (by first | exact .here | exact k1 | exact k2 | exact k3 | exact k4 | exact k5 | exact k6 | exact k7 | exact k8 | exact k9 | exact k10 | exact k11 | exact k12 | exact k13) rfl) rfl ?_
        refine st_p (fun _ => by exact y_and (.plain rfl) rfl rfl) rfl ?_
        refine st_p (fun _ => by exact y_move (.plain rfl)) rfl ?_
        refine st_g rfl rfl rfl SaysI.out (fun hc _ => by exact y_fieldPtr (.plain rfl)) rfl ?_
        refine st_g rfl rfl rfl SaysI.out (fun hc _ => by exact y_loadAggN (cs' := [_, _, _, _, _, _, _, _, _]) (.opt rfl hc) (by first | exact .here | exact k1 | exact k2 | exact k3 | exact k4 | exact k5 | exact k6 | exact k7 | exact k8 | exact k9 | exact k10 | exact k11 | exact k12 | exact k13) (le_ rfl) (by rfl)) rfl ?_
        refine st_g rfl rfl rfl SaysI.out (fun hc _ => by exact y_call (.plain rfl) (.cons (.imp (.opt rfl hc) (AV.Imp.agg (RowOf.imp (enc := encS)))) .nil) (ACalls.pure (waiting_c _ (by first | assumption | exact Sm.to (by omega) | exact Sm.q (by omega) | exact Cv.apply_wl (by omega) | exact Cv.withdraw_wl | omega | exact smN.le (by assumption) (by omega) | (simp only [Cv.waiting, List.length_map]; first | exact Sm.q (by omega) | exact Cv.apply_wl (by omega) | omega) | (simp at hc; omega) | (simp [Cv.waiting]; omega))))) rfl ?_
        refine st_g rfl rfl rfl SaysI.out (fun hc _ => by exact y_move (.plain rfl)) rfl ?_
        refine st_g rfl rfl rfl SaysI.out (fun hc _ => by exact y_convert (by rfl) (by rfl) (.opt rfl hc)) rfl ?_
        refine st_g rfl rfl rfl SaysI.out (fun hc _ => by exact y_rem (.opt rfl hc) (.plain rfl) (by omega)) rfl ?_
        refine st_g rfl rfl rfl SaysI.out (fun hc _ => by exact y_buildSlice (.cons (.opt rfl hc) inferInstance (by rfl) .nil) rfl (le_ rfl)) rfl ?_
        refine st_g rfl rfl rfl SaysI.out (fun hc _ => by exact y_call (.plain rfl) (.cons (.imp (.opt rfl hc) (Sl.imp (enc := encI))) (.cons (.imp (.opt rfl hc) (Sl.imp (enc := encI))) .nil)) (ACalls.pure (equalI_c _ _ (by first | assumption | exact Sm.to (by omega) | exact Sm.q (by omega) | exact Cv.apply_wl (by omega) | exact Cv.withdraw_wl | omega | exact smN.le (by assumption) (by omega) | (simp only [Cv.waiting, List.length_map]; first | exact Sm.q (by omega) | exact Cv.apply_wl (by omega) | omega) | (simp at hc; omega) | (simp [Cv.waiting]; omega))))) rfl ?_
        refine st_p (fun _ => by exact y_and (.plain rfl) rfl rfl) rfl ?_
        refine st_p (fun _ => by exact y_move (.plain rfl)) rfl ?_
        refine st_g rfl rfl rfl SaysI.out (fun hc _ => by exact y_call (.plain rfl) .nil (ACalls.pure (awake_c))) rfl ?_
        refine st_p (fun _ => by exact y_and (.plain rfl) rfl rfl) rfl ?_
        refine st_p (fun _ => by exact y_assign (.plain rfl)) rfl ?_
        refine aops_nil ?_
        refine awp_ret ?_
        refine retG (.inr rfl) (.cons (.tmp rfl) .nil) (VShift.of1 (AV.Imp.refl _) (.nil _)) ⟨congrArg (fun x : (Bool) => (AV.bool x)) (show _ = (true) from ?_), rfl⟩
        have e := Cv.memory_law ((IntKind.i64.wrap t).tmod 16) ((IntKind.i64.wrap u).tmod 16) 58 (Cv.tmod16 t ht) (Cv.tmod16 u hu) (by decide)
        obtain ⟨e0, e1, e2, e3, e4, e5, e6, e7, e8⟩ := e
        simp [Cv.waitC] at *
        simp [e0, e1, e2, e3, e4, e5, e6, e7, e8]
      · kernel_rfl
    · kernel_rfl

set_option maxRecDepth 100000 in
theorem condvarMemory_lifted (os : Os) (started : os.Started) (H : Type) (enc : TypeId × Value → H) :
    ReturnsInHanded {} Try.checked os 5 .any (Ytpbjbnaijbokoaa.Rows.condvarMemorySpec.pre6 enc Try.prog Try.f5 Ytpbjbnaijbokoaa.Rows.condvarMemoryRow.domain false) (Ytpbjbnaijbokoaa.Rows.condvarMemorySpec.post enc Try.prog Try.f5 false true false false) := by
  refine returnsInHanded_of_change (C := Try.checked) (s := Ytpbjbnaijbokoaa.Rows.condvarMemorySpec) ownK started (by kernel_rfl) Try.func5
    (ChangeSpec.witness6 (C := Try.checked) (s := Ytpbjbnaijbokoaa.Rows.condvarMemorySpec) false ⟨#[], #[.int .u8 0, .int .u8 0, .bool false], []⟩ 8 (by kernel_rfl) (by kernel_rfl) (by kernel_rfl) (by kernel_rfl) (by kernel_rfl)) ?_
  intro W base args ds gs before hval hW _ _
  refine law_row (TB := 4) (by rw [Try.params5]) ((.scalar rdU (by kernel_rfl) (.scalar rdU (by kernel_rfl) (.scalar rdB (by kernel_rfl) .nil)))) (fun a h => memoryLaw_c a.1 a.2.1 a.2.2.1 h.1 h.2.1) laidK (by kernel_rfl) rfl Try.underlying4 rfl (fun ds' h => ?_) hval hW
  rw [Try.params5] at h
  match ds', h with
  | [d0, d1, d2], _ => rfl
namespace Ytpbjbnaijbokoaa
theorem condvarMemory_holds : Rows.CondvarMemorySaid :=
  OpenClaim.holds_of_wide 5 Try.f5 rfl rfl rfl rfl rfl rfl rfl ⟨rfl, rfl, rfl, rfl, rfl⟩ rfl rfl rfl rfl rfl (by kernel_rfl) Try.func5 (by kernel_rfl)
    (of_decide_eq_true (by kernel_rfl)) (by unfold Func.isWrapper; first | (rw [if_pos (by decide +kernel)]; kernel_rfl) | (rw [if_neg (by decide +kernel)]; exact ⟨rfl, rfl⟩))
    (fun os started H enc _ => condvarMemory_lifted os started H enc)
end Ytpbjbnaijbokoaa

end Go.Proofs
