/- WaitlistPriority answers true for every input, and its arguments read as they did: the given statement WaitlistPrioritySaid. No condition. -/
import Derived.Test.YtapmdkfhppbblaaR07
import Derived.Test.YtapmdkfhppbblaaRows
set_option linter.unusedVariables false
set_option linter.unusedSimpArgs false
set_option maxRecDepth 10000
namespace Go.Proofs
open Go.Aw Wl
theorem ownK : ownKnob Try.prog.godebug = none := by kernel_rfl
theorem laidK : laidOutB Try.prog = true := by kernel_rfl
theorem rdI : RdT Try.prog 3 (fun n : Int => [AV.int n]) (okI) := RdT.i64 Try.underlying3
theorem rdW : RdT Try.prog 24 encW okW :=
  RdT.map (RdT.struct Try.underlying24 (.cons (s := 1) (RdT.i64 Try.underlying3) rfl (by kernel_rfl) (.cons (s := 1) (RdT.i64 Try.underlying3) rfl (by kernel_rfl) (.cons (s := 1) (RdT.i64 Try.underlying3) rfl (by kernel_rfl) (.cons (s := 1) (RdT.i64 Try.underlying3) rfl (by kernel_rfl) (.cons (s := 1) (RdT.i64 Try.underlying3) rfl (by kernel_rfl) .nil))))) (by kernel_rfl)) (fun x => (⟨x.1, x.2.1, x.2.2.1, x.2.2.2.1, x.2.2.2.2.1⟩ : W)) (fun _ => rfl) (fun _ h => ⟨h.1, h.2.1, h.2.2.1, h.2.2.2.1, h.2.2.2.2.1⟩)
theorem rdQ : RdT Try.prog 22 (fun l : List (W) => [AV.sl 5 (l.map encW)]) (fun l => ∀ a ∈ l, okW a) := RdT.slice rdW inferInstance
theorem great7_c (l : List W)  : ACalls Try.prog 11 [(AV.sl 5 (List.map encW l))] [] (fun v st => v = (AV.bool (decide (12 < l.length))) ∧ st = []) := by
  refine acalls_body Try.func11 (by kernel_rfl) rfl Try.ntmps11 (le_ rfl) ?_
  rw [Try.results11]
  refine awp_seq ?_
  refine awp_region ?_
  refine st_p (fun _ => by exact y_assign (.plain rfl)) rfl ?_
  refine aops_nil ?_
  refine awp_seq ?_
  refine awp_region ?_
  refine st_p (fun _ => by exact y_move (.plain rfl)) rfl ?_
  first | refine st_p (fun _ => by exact y_lenN (.plain rfl)) rfl ?_ | refine st_p (fun _ => by exact y_len (.plain rfl)) rfl ?_ | refine st_p (fun _ => by exact y_lenArr (.plain rfl)) rfl ?_
  refine st_p (fun _ => by exact y_gtr (.plain rfl) (.plain rfl)) rfl ?_
  refine st_p (fun _ => by exact y_assign (.plain rfl)) rfl ?_
  refine aops_nil ?_
  refine awp_ret ?_
  refine retG (.inr rfl) (.cons (.tmp rfl) .nil) (VShift.of1 (AV.Imp.refl _) (.nil _)) ⟨congrArg (fun x : (Bool) => (AV.bool x)) (show _ = (decide (12 < l.length)) from ?_), rfl⟩
  rw [decide_eq_decide]; omega

theorem waiter_c (t y p : Int)  : ACalls Try.prog 41 [(AV.int t), (AV.int y), (AV.int p)] [] (fun v st => v = (AV.agg (encW (wk t y p))) ∧ st = []) := by
  refine acalls_body Try.func41 (by kernel_rfl) rfl Try.ntmps41 (le_ rfl) ?_
  rw [Try.results41]
  refine awp_seq ?_
  refine awp_region ?_
  refine st_n (fun _ => by exact y_alloc) rfl fun n1 => ?_
  refine aops_nil ?_
  refine awp_seq ?_
  refine awp_region ?_
  refine st_p (fun _ => by exact y_move (.plain rfl)) rfl ?_
  refine st_p (fun _ => by exact y_move (.plain rfl)) rfl ?_
  refine st_p (fun _ => by exact y_move (.plain rfl)) rfl ?_
  refine st_p (fun _ => by exact y_build (out := [_, _, _, _, _]) (.cons (.plain rfl) inferInstance rfl (.cons (.plain rfl) inferInstance rfl (.cons (.plain rfl) inferInstance rfl (.cons (.plain rfl) inferInstance rfl (.cons (.plain rfl) inferInstance rfl .nil))))) rfl rfl) rfl ?_
  refine st_s (fun _ => by exact y_storeW (by rfl) rfl (.plain rfl) (.plain rfl) (by first | exact .here | exact u1 | exact u2 | exact u3 | exact u4 | exact u5 | exact u6 | exact u7 | exact u8 | exact u9 | exact u10 | exact u11 | exact u12 | exact u13) (by rfl)) ?_
  refine aops_nil ?_
  refine awp_ret ?_
  refine retG (.inr rfl) (.cons (res_cellW rfl (by first | exact .here | exact k1 | exact k2 | exact k3 | exact k4 | exact k5 | exact k6 | exact k7 | exact k8 | exact k9 | exact k10 | exact k11 | exact k12 | exact k13) (by rfl)) .nil) (VShift.of1 (AV.Imp.agg (RowOf.imp (enc := encW))) (.nil _)) ⟨congrArg (fun x : (Wl.W) => (AV.agg (encW x))) (show _ = (wk t y p) from ?_), rfl⟩
  rfl

theorem notValid_c (w : W)  : ACalls Try.prog 36 [(AV.agg (encW w))] [] (fun v st => v = (AV.bool (!valid w)) ∧ st = []) := by
  refine acalls_body Try.func36 (by kernel_rfl) rfl Try.ntmps36 (le_ rfl) ?_
  rw [Try.results36]
  refine awp_seq ?_
  refine awp_region ?_
  refine st_n (fun _ => by exact y_box (.plain rfl)) rfl fun n1 => ?_
  refine st_p (fun _ => by exact y_assign (.plain rfl)) rfl ?_
  refine aops_nil ?_
  refine awp_seq ?_
  refine awp_region ?_
  refine st_p (fun _ => by exact y_loadW (.plain rfl) (by first | exact .here | exact k1 | exact k2 | exact k3 | exact k4 | exact k5 | exact k6 | exact k7 | exact k8 | exact k9 | exact k10 | exact k11 | exact k12 | exact k13) (by rfl)) rfl ?_
  refine aops_call (blt_lt rfl) (.plain rfl) (.cons (.imp (.plain rfl) (AV.Imp.agg (RowOf.imp (enc := encW)))) .nil) (ACalls.here (valid7_c _) ?_)
  refine st_p (fun _ => by exact y_not (.plain rfl)) rfl ?_
  refine st_p (fun _ => by exact y_assign (.plain rfl)) rfl ?_
  refine aops_nil ?_
  refine awp_ret ?_
  refine retG (.inr rfl) (.cons (.tmp rfl) .nil) (VShift.of1 (AV.Imp.refl _) (.nil _)) ⟨congrArg (fun x : (Bool) => (AV.bool x)) (show _ = (!valid w) from ?_), rfl⟩
  rfl

theorem awake_c   : ACalls Try.prog 12 [] [] (fun v st => v = (AV.bool (true)) ∧ st = []) := by
  refine acalls_body Try.func12 (by kernel_rfl) rfl Try.ntmps12 (le_ rfl) ?_
  rw [Try.results12]
  refine awp_seq ?_
  refine awp_region ?_
  refine st_p (fun _ => by exact y_assign (.plain rfl)) rfl ?_
  refine aops_nil ?_
  refine awp_seq ?_
  refine awp_region ?_
  refine aops_call (blt_lt rfl) (.plain rfl) (.cons (.plain rfl) (.cons (.plain rfl) (.cons (.plain rfl) .nil))) (ACalls.here (waiter_c _ _ _) ?_)
  refine aops_call (blt_lt rfl) (.plain rfl) (.cons (.plain rfl) (.cons (.plain rfl) (.cons (.plain rfl) .nil))) (ACalls.here (waiter_c _ _ _) ?_)
  refine st_p (fun _ => by exact y_buildSlice (.cons (.plain rfl) inferInstance (by rfl) (.cons (.plain rfl) inferInstance (by rfl) .nil)) rfl (le_ rfl)) rfl ?_
  refine aops_call (blt_lt rfl) (.plain rfl) (.cons (.plain rfl) (.cons (.plain rfl) (.cons (.plain rfl) .nil))) (ACalls.here (waiter_c _ _ _) ?_)
  refine aops_call (blt_lt rfl) (.plain rfl) (.cons (.plain rfl) (.cons (.imp (.plain rfl) (Sl.imp (enc := encW))) (.cons (.imp (.plain rfl) (AV.Imp.agg (RowOf.imp (enc := encW)))) .nil))) (ACalls.here (push_c _ _ _ (by first | assumption | omega | (simp; omega) | (simp; done) | decide +kernel | (simp_all; omega))) ?_)
  refine st_p (fun _ => by exact y_move (.plain rfl)) rfl ?_
  refine st_p (fun _ => by exact y_extract (.plain rfl) rfl) rfl ?_
  refine st_p (fun _ => by exact y_extract (.plain rfl) rfl) rfl ?_
  refine st_p (fun _ => by exact y_assign (.plain rfl)) rfl ?_
  refine st_p (fun _ => by exact y_assign (.plain rfl)) rfl ?_
  refine aops_nil ?_
  refine awp_seq ?_
  refine awp_region ?_
  refine aops_call (blt_lt rfl) (.plain rfl) (.cons (.plain rfl) (.cons (.plain rfl) (.cons (.plain rfl) .nil))) (ACalls.here (waiter_c _ _ _) ?_)
  refine aops_call (blt_lt rfl) (.plain rfl) (.cons (.plain rfl) (.cons (.plain rfl) (.cons (.plain rfl) .nil))) (ACalls.here (waiter_c _ _ _) ?_)
  refine aops_call (blt_lt rfl) (.plain rfl) (.cons (.plain rfl) (.cons (.plain rfl) (.cons (.plain rfl) .nil))) (ACalls.here (waiter_c _ _ _) ?_)
  refine st_p (fun _ => by exact y_buildSlice (.cons (.plain rfl) inferInstance (by rfl) (.cons (.plain rfl) inferInstance (by rfl) (.cons (.plain rfl) inferInstance (by rfl) .nil))) rfl (le_ rfl)) rfl ?_
  refine st_p (fun _ => by exact y_assign (.plain rfl)) rfl ?_
  refine aops_nil ?_
  refine awp_seq ?_
  refine awp_region ?_
  refine st_p (fun _ => by exact y_move (.plain rfl)) rfl ?_
  refine aops_call (blt_lt rfl) (.plain rfl) (.cons (.imp (.plain rfl) (Sl.imp (enc := encW))) (.cons (.plain rfl) (.cons (.plain rfl) .nil))) (ACalls.here (grant_c _ _ _ (by first | assumption | omega | (simp; omega) | (simp; done) | decide +kernel | (simp_all; omega)) (by first | assumption | omega | (simp; omega) | (simp; done) | decide +kernel | (simp_all; omega))) ?_)
  refine st_p (fun _ => by exact y_move (.plain rfl)) rfl ?_
  refine st_p (fun _ => by exact y_extract (.plain rfl) rfl) rfl ?_
  refine st_p (fun _ => by exact y_extract (.plain rfl) rfl) rfl ?_
  refine st_p (fun _ => by exact y_extract (.plain rfl) rfl) rfl ?_
  refine st_p (fun _ => by exact y_assign (.plain rfl)) rfl ?_
  refine st_p (fun _ => by exact y_assign (.plain rfl)) rfl ?_
  refine st_p (fun _ => by exact y_assign (.plain rfl)) rfl ?_
  refine aops_nil ?_
  refine awp_seq ?_
  refine awp_region ?_
  refine st_p (fun _ => by exact y_move (.plain rfl)) rfl ?_
  refine aops_call (blt_lt rfl) (.plain rfl) (.cons (.imp (.plain rfl) (Sl.imp (enc := encW))) (.cons (.plain rfl) (.cons (.plain rfl) .nil))) (ACalls.here (grant_c _ _ _ (by first | assumption | omega | (simp; omega) | (simp; done) | decide +kernel | (simp_all; omega)) (by first | assumption | omega | (simp; omega) | (simp; done) | decide +kernel | (simp_all; omega))) ?_)
  refine st_p (fun _ => by exact y_move (.plain rfl)) rfl ?_
  refine st_p (fun _ => by exact y_extract (.plain rfl) rfl) rfl ?_
  refine st_p (fun _ => by exact y_extract (.plain rfl) rfl) rfl ?_
  refine st_p (fun _ => by exact y_extract (.plain rfl) rfl) rfl ?_
  refine st_p (fun _ => by exact y_assign (.plain rfl)) rfl ?_
  refine st_p (fun _ => by exact y_assign (.plain rfl)) rfl ?_
  refine st_p (fun _ => by exact y_assign (.plain rfl)) rfl ?_
  refine aops_nil ?_
  refine awp_seq ?_
  refine awp_any0 (ks := [.free, .free, .free, .free, .free, .free, .free, .free, .free, .free, .free, .free, .free, .free, .free, .free, .free, .free, .free, .free, .free, .free, .free, .free, .free, .free, .free, .free, .free, .free, .free, .free, .free, .free]) (by kernel_rfl) (fun K => ?_) ?_
  · skip
    refine dr_p (fun _ => by exact y_move (.plain rfl)) rfl ?_
    refine dr_p (fun _ => by exact y_eql (.plain rfl) (.plain rfl)) rfl ?_
    refine dr_p (fun _ => by exact y_move (.plain rfl)) rfl ?_
    refine dr_g rfl rfl rfl SaysI.out (fun hc _ => by exact y_move (.plain rfl)) rfl ?_
    refine dr_g rfl rfl rfl SaysI.out (fun hc _ => by exact y_call (.plain rfl) (.cons (.imp (.opt rfl hc) (Sl.imp (enc := encW))) .nil) (ACalls.pure (tasks_c _ (by first | assumption | omega | (simp; omega) | (simp; done) | decide +kernel | (simp_all; omega))))) rfl ?_
    refine dr_g rfl rfl rfl SaysI.out (fun hc _ => by exact y_buildSlice (.cons (.plain rfl) inferInstance (by rfl) (.cons (.plain rfl) inferInstance (by rfl) (.cons (.plain rfl) inferInstance (by rfl) .nil))) rfl (le_ rfl)) rfl ?_
    refine dr_g rfl rfl rfl SaysI.out (fun hc _ => by exact y_call (.plain rfl) (.cons (.imp (.opt rfl hc) (Sl.imp (enc := encI))) (.cons (.imp (.opt rfl hc) (Sl.imp (enc := encI))) .nil)) (ACalls.pure (equalI_c _ _ (by first | assumption | omega | (simp; omega) | (simp; done) | decide +kernel | (simp_all; omega))))) rfl ?_
    refine dr_p (fun _ => by exact y_and (.plain rfl) rfl rfl) rfl ?_
    refine dr_p (fun _ => by exact y_move (.plain rfl)) rfl ?_
    refine dr_g rfl rfl rfl SaysI.out (fun hc _ => by exact y_move (.plain rfl)) rfl ?_
    refine dr_g rfl rfl rfl SaysI.out (fun hc _ => by exact y_move (.plain rfl)) rfl ?_
    first | refine dr_g rfl rfl rfl SaysI.out (fun hc _ => by exact y_sliceNil (.opt rfl hc) (.plain rfl)) rfl ?_ | refine dr_g rfl rfl rfl SaysI.out (fun hc _ => by exact y_sliceRaw (.opt rfl hc) (.plain rfl)) rfl ?_ | refine dr_g rfl rfl rfl SaysI.out (fun hc _ => by exact y_sliceHiM (.opt rfl hc) (.plain rfl) rfl (by first | omega | (simp; omega) | (simp at hc; omega) | (simp at hc ⊢; omega) | (simp; done))) rfl ?_ | refine dr_g rfl rfl rfl SaysI.out (fun hc _ => by exact y_sliceHi (.opt rfl hc) (.plain rfl) rfl (by first | omega | (simp; omega) | (simp at hc; omega) | (simp at hc ⊢; omega) | (simp; done))) rfl ?_
    refine dr_g rfl rfl rfl SaysI.out (fun hc _ => by exact y_call (.plain rfl) (.cons (.imp (.opt rfl hc) (Sl.imp (enc := encW))) (.cons (.imp (.opt rfl hc) (Sl.imp (enc := encW))) .nil)) (ACalls.pure (equalW_c _ _ (by first | assumption | omega | (simp; omega) | (simp; done) | decide +kernel | (simp_all; omega))))) rfl ?_
    refine dr_p (fun _ => by exact y_and (.plain rfl) rfl rfl) rfl ?_
    refine dr_p (fun _ => by exact y_move (.plain rfl)) rfl ?_
    refine dr_g rfl rfl rfl SaysI.out (fun hc _ => by exact y_move (.plain rfl)) rfl ?_
    refine dr_g rfl rfl rfl SaysI.out (fun hc _ => by exact y_eql (.opt rfl hc) (.plain rfl)) rfl ?_
    refine dr_p (fun _ => by exact y_and (.plain rfl) rfl rfl) rfl ?_
    refine dr_p (fun _ => by exact y_move (.plain rfl)) rfl ?_
    refine dr_g rfl rfl rfl SaysI.out (fun hc _ => by exact y_move (.plain rfl)) rfl ?_
    refine dr_g rfl rfl rfl SaysI.out (fun hc _ => by exact y_move (.plain rfl)) rfl ?_
    first | refine dr_g rfl rfl rfl SaysI.out (fun hc _ => by exact y_indexMap (.opt rfl hc) (.plain rfl) rfl (by refine ⟨?_, ?_⟩; (first | omega | (simp; omega) | (simp at hc; omega) | (simp at hc ⊢; omega) | (simp; done)); rfl)) rfl ?_ | refine dr_g rfl rfl rfl SaysI.out (fun hc _ => by exact y_indexT (.opt rfl hc) (.plain rfl) (by first | omega | (simp; omega) | (simp at hc; omega) | (simp at hc ⊢; omega) | (simp; done)) (by first | omega | (simp; omega) | (simp at hc; omega) | (simp at hc ⊢; omega) | (simp; done))) rfl ?_ | refine dr_g rfl rfl rfl SaysI.out (fun hc _ => by exact y_index (.opt rfl hc) (.plain rfl) (by omega) rfl) rfl ?_ | refine dr_g rfl rfl rfl SaysI.out (fun hc _ => by exact y_indexArr (.opt rfl hc) (.plain rfl) rfl (by first | omega | (simp; omega) | (simp at hc; omega) | (simp at hc ⊢; omega) | (simp; done))) rfl ?_
    first | refine dr_g rfl rfl rfl SaysI.out (fun hc _ => by exact y_loadEW (.opt rfl hc) (by rfl)) rfl ?_ | refine dr_g rfl rfl rfl SaysI.out (fun hc _ => by exact y_loadEAggN (cs' := [_, _, _, _, _]) (.opt rfl hc) (le_ rfl) rfl) rfl ?_
    refine dr_g rfl rfl rfl SaysI.out (fun hc _ => by exact y_move (.plain rfl)) rfl ?_
    first | refine dr_g rfl rfl rfl SaysI.out (fun hc _ => by exact y_indexMap (.opt rfl hc) (.plain rfl) rfl (by refine ⟨?_, ?_⟩; (first | omega | (simp; omega) | (simp at hc; omega) | (simp at hc ⊢; omega) | (simp; done)); rfl)) rfl ?_ | refine dr_g rfl rfl rfl SaysI.out (fun hc _ => by exact y_indexT (.opt rfl hc) (.plain rfl) (by first | omega | (simp; omega) | (simp at hc; omega) | (simp at hc ⊢; omega) | (simp; done)) (by first | omega | (simp; omega) | (simp at hc; omega) | (simp at hc ⊢; omega) | (simp; done))) rfl ?_ | refine dr_g rfl rfl rfl SaysI.out (fun hc _ => by exact y_index (.opt rfl hc) (.plain rfl) (by omega) rfl) rfl ?_ | refine dr_g rfl rfl rfl SaysI.out (fun hc _ => by exact y_indexArr (.opt rfl hc) (.plain rfl) rfl (by first | omega | (simp; omega) | (simp at hc; omega) | (simp at hc ⊢; omega) | (simp; done))) rfl ?_
    first | refine dr_g rfl rfl rfl SaysI.out (fun hc _ => by exact y_loadEW (.opt rfl hc) (by rfl)) rfl ?_ | refine dr_g rfl rfl rfl SaysI.out (fun hc _ => by exact y_loadEAggN (cs' := [_, _, _, _, _]) (.opt rfl hc) (le_ rfl) rfl) rfl ?_
    refine dr_g rfl rfl rfl SaysI.out (fun hc _ => by exact y_buildSlice (.cons (.opt rfl hc) inferInstance (by rfl) (.cons (.opt rfl hc) inferInstance (by rfl) .nil)) rfl (le_ rfl)) rfl ?_
    refine dr_g rfl rfl rfl SaysI.out (fun hc _ => by exact y_call (.plain rfl) (.cons (.imp (.opt rfl hc) (Sl.imp (enc := encW))) (.cons (.imp (.opt rfl hc) (Sl.imp (enc := encW))) .nil)) (ACalls.pure (equalW_c _ _ (by first | assumption | omega | (simp; omega) | (simp; done) | decide +kernel | (simp_all; omega))))) rfl ?_
    refine dr_p (fun _ => by exact y_and (.plain rfl) rfl rfl) rfl ?_
    refine dr_p (fun _ => by exact y_move (.plain rfl)) rfl ?_
    refine dr_g rfl rfl rfl SaysI.out (fun hc _ => by exact y_move (.plain rfl)) rfl ?_
    refine dr_g rfl rfl rfl SaysI.out (fun hc _ => by exact y_eql (.opt rfl hc) (.plain rfl)) rfl ?_
    refine dr_p (fun _ => by exact y_and (.plain rfl) rfl rfl) rfl ?_
    refine dr_p (fun _ => by exact y_assign (.plain rfl)) rfl ?_
    refine dr_nil ⟨rfl, ?_⟩
    refine awp_ret ?_
    refine retG (.inr rfl) (.cons (.tmp rfl) .nil) (VShift.of1 (AV.Imp.refl _) (.nil _)) ⟨congrArg (fun x : (Bool) => (AV.bool x)) (show _ = (true) from ?_), rfl⟩
    decide +kernel
  · kernel_rfl

theorem priorityLaw_c (d : Int) (l : List W)  : ACalls Try.prog 10 [(AV.int d), (AV.sl 5 (List.map encW l))] [] (fun v st => v = (AV.bool (true)) ∧ st = []) := by
  refine acalls_body Try.func10 (by kernel_rfl) rfl Try.ntmps10 (le_ rfl) ?_
  rw [Try.results10]
  refine awp_seq ?_
  refine awp_region ?_
  refine st_p (fun _ => by exact y_assign (.plain rfl)) rfl ?_
  refine aops_nil ?_
  refine awp_seq ?_
  refine awp_seq ?_
  refine awp_region ?_
  refine st_p (fun _ => by exact y_move (.plain rfl)) rfl ?_
  refine aops_call (blt_lt rfl) (.plain rfl) (.cons (.imp (.plain rfl) (Sl.imp (enc := encW))) .nil) (ACalls.here (great7_c _) ?_)
  refine st_p (fun _ => by exact y_move (.plain rfl)) rfl ?_
  refine st_g rfl rfl rfl SaysI.out (fun hc _ => by exact y_move (.plain rfl)) rfl ?_
  refine st_g rfl rfl rfl SaysI.out (fun hc _ => by exact y_neq (.opt rfl hc) (.plain rfl)) rfl ?_
  refine st_g rfl rfl rfl SaysI.out (fun hc _ => by exact y_move (.opt rfl hc)) rfl ?_
  refine st_g rfl rfl rfl SaysI.out (fun hc _ => by exact y_move (.plain rfl)) rfl ?_
  refine st_g rfl rfl rfl SaysI.out (fun hc _ => by exact y_neq (.opt rfl hc) (.plain rfl)) rfl ?_
  first | refine st_g rfl rfl rfl SaysI.out (fun hc _ => by exact y_and' hc (.opt rfl hc) rfl rfl) rfl ?_ | refine st_g rfl rfl rfl SaysI.out (fun hc _ => by exact y_and (.opt rfl hc) rfl rfl) rfl ?_
  refine st_p (fun _ => by exact y_or (.plain rfl) rfl rfl) rfl ?_
  refine st_p (fun _ => by exact y_move (.plain rfl)) rfl ?_
  refine st_g rfl rfl rfl SaysI.out (fun hc _ => by exact y_move (.plain rfl)) rfl ?_
  refine st_g rfl rfl rfl SaysI.out (fun hc _ => by exact y_call (.plain rfl) (.cons (.opt rfl hc) (.cons (.imp (.plain rfl) Fun.imp) .nil)) (id (containsFW_c l (by simp at hc; omega) 36 [] (fun w => !valid w) [] (fun w _ => notValid_c w)))) rfl ?_
  refine st_p (fun _ => by exact y_or (.plain rfl) rfl rfl) rfl ?_
  refine aops_nil ?_
  refine awp_cond rfl (fun h1 => ?_) (fun h1 => ?_)
  · skip
    try simp only [decide_eq_true_eq, decide_eq_false_iff_not, Bool.not_eq_true', Bool.not_eq_false', Bool.not_eq_true, Bool.not_eq_false, List.length_map, Int.ofNat_lt, Int.ofNat_le, Bool.or_eq_true, Bool.and_eq_true, Bool.or_eq_false_iff, Bool.and_eq_false_iff] at h1
    refine awp_seq ?_
    refine awp_region ?_
    refine aops_call (blt_lt rfl) (.plain rfl) .nil (ACalls.here (awake_c) ?_)
    refine st_p (fun _ => by exact y_assign (.plain rfl)) rfl ?_
    refine aops_nil ?_
    refine awp_ret ?_
    refine retG (.inr rfl) (.cons (.tmp rfl) .nil) (VShift.of1 (AV.Imp.refl _) (.nil _)) ⟨congrArg (fun x : (Bool) => (AV.bool x)) (show _ = (true) from ?_), rfl⟩
    rfl
  · skip
    try simp only [decide_eq_true_eq, decide_eq_false_iff_not, Bool.not_eq_true', Bool.not_eq_false', Bool.not_eq_true, Bool.not_eq_false, List.length_map, Int.ofNat_lt, Int.ofNat_le, Bool.or_eq_true, Bool.and_eq_true, Bool.or_eq_false_iff, Bool.and_eq_false_iff] at h1
    have hd : d = 1 ∨ d = 2 := by omega
    have hv : ∀ w ∈ l, valid w = true := by
      intro w hw
      have := h1.2
      simp at this
      exact this w hw
    have hl12 : l.length ≤ 12 := by omega
    have hq0 : qk d l 0 = [] := by unfold qk; split <;> rfl
    have hpr : ∀ w ∈ l, 0 ≤ w.prio ∧ w.prio ≤ 9 := fun w hw => by
      have := hv w hw
      simp [valid] at this
      omega
    refine awp_skip ?_
    refine awp_seq ?_
    refine awp_region ?_
    refine st_p (fun _ => by exact y_assign (.plain rfl)) rfl ?_
    refine aops_nil ?_
    refine awp_seq ?_
    refine awp_seq ?_
    refine awp_region ?_
    refine st_p (fun _ => by exact y_move (.plain rfl)) rfl ?_
    first | refine st_p (fun _ => by exact y_lenN (.plain rfl)) rfl ?_ | refine st_p (fun _ => by exact y_len (.plain rfl)) rfl ?_ | refine st_p (fun _ => by exact y_lenArr (.plain rfl)) rfl ?_
    refine st_p (fun _ => by exact y_move (.plain rfl)) rfl ?_
    refine aops_nil ?_
    refine awp_block ?_
    refine awp_loop2 (X := Nat) [0, 1, 26, 27] (.cons rfl (.cons rfl (.cons rfl (.cons rfl .nil)))) (fun σ x => ((5, .sl 5 ((qk d l x).map encW)) : Nat × AV) :: ((28, .int (x : Int)) : Nat × AV) :: σ) (fun R x => R) (fun x => x ≤ l.length ∧ (True)) (fun x => l.length - x) 0 (by exact Weak.of2 (by (repeat (first | exact .nil _ | refine .cons rfl (by first | exact AV.Imp.refl _ | exact AV.Imp.trans AV.Imp.nil_sl (AV.Imp.of_eq (by rw [hq0]; rfl)) | exact Sl.imp | exact AV.Imp.agg RowOf.imp | exact AV.Imp.grow_sl | exact AV.Imp.nil_grow | exact AV.Imp.full_grow | exact AV.Imp.own_grow | exact AV.Imp.grow_of rfl | exact AV.Imp.sl_of rfl | exact AV.Imp.int_of (by omega) | exact AV.Imp.of_eq (by first | omega | simpa)) ?_)); done) (by (repeat (first | exact .refl _ | exact .nil _ | apply ItLe2.cons (by first | exact .here | exact k1 | exact k2 | exact k3 | exact k4 | exact k5 | exact k6 | exact k7 | exact k8 | exact k9 | exact k10 | exact k11 | exact k12 | exact k13) | apply ItLe2.cells (by first | exact .here | exact k1 | exact k2 | exact k3 | exact k4 | exact k5 | exact k6 | exact k7 | exact k8 | exact k9 | exact k10 | exact k11 | exact k12 | exact k13) (by repeat (first | exact .nil | refine .cons (by first | exact AV.Imp.refl _ | exact AV.Imp.trans AV.Imp.nil_sl (AV.Imp.of_eq (by rw [hq0]; rfl)) | exact Sl.imp | exact AV.Imp.agg RowOf.imp | exact AV.Imp.grow_sl | exact AV.Imp.nil_grow | exact AV.Imp.full_grow | exact AV.Imp.own_grow | exact AV.Imp.grow_of rfl | exact AV.Imp.sl_of rfl | exact AV.Imp.int_of (by omega) | exact AV.Imp.of_eq (by first | omega | simpa)) ?_)) | apply ItLe2.tail0)); done)) ⟨Nat.zero_le _, trivial⟩ ?_
    rintro k ⟨hk, hinv⟩
    refine awp_seq ?_
    refine awp_region ?_
    refine st_p (fun _ => by exact y_lss (.plain rfl) (.plain rfl)) rfl ?_
    refine aops_nil ?_
    refine awp_seq ?_
    refine awp_cond rfl (fun h2 => ?_) (fun h2 => ?_)
    · skip
      try simp only [decide_eq_true_eq, decide_eq_false_iff_not, Bool.not_eq_true', Bool.not_eq_false', Bool.not_eq_true, Bool.not_eq_false, List.length_map, Int.ofNat_lt, Int.ofNat_le, Bool.or_eq_true, Bool.and_eq_true, Bool.or_eq_false_iff, Bool.and_eq_false_iff] at h2
      refine awp_skip ?_
      refine awp_seq ?_
      refine awp_block ?_
      refine awp_seq ?_
      obtain ⟨hqc, hql⟩ := qk_ok hd hv hl12 k hk
      refine awp_region ?_
      first | refine st_p (fun _ => by exact y_indexMap (.plain rfl) (.plain rfl) rfl (by refine ⟨?_, ?_⟩; (first | omega | (simp; omega) | (simp at hc; omega) | (simp at hc ⊢; omega) | (simp; done)); rfl)) rfl ?_ | refine st_p (fun _ => by exact y_indexT (.plain rfl) (.plain rfl) (by first | omega | (simp; omega) | (simp at hc; omega) | (simp at hc ⊢; omega) | (simp; done)) (by first | omega | (simp; omega) | (simp at hc; omega) | (simp at hc ⊢; omega) | (simp; done))) rfl ?_ | refine st_p (fun _ => by exact y_index (.plain rfl) (.plain rfl) (by omega) rfl) rfl ?_ | refine st_p (fun _ => by exact y_indexArr (.plain rfl) (.plain rfl) rfl (by first | omega | (simp; omega) | (simp at hc; omega) | (simp at hc ⊢; omega) | (simp; done))) rfl ?_
      first | refine st_p (fun _ => by exact y_loadEW (.plain rfl) (by rfl)) rfl ?_ | refine st_p (fun _ => by exact y_loadEAggN (cs' := [_, _, _, _, _]) (.plain rfl) (le_ rfl) rfl) rfl ?_
      refine st_n (fun _ => by exact y_alloc) rfl fun n1 => ?_
      refine st_s (fun _ => by exact y_storeW (by rfl) rfl (.plain rfl) (.plain rfl) (by first | exact .here | exact u1 | exact u2 | exact u3 | exact u4 | exact u5 | exact u6 | exact u7 | exact u8 | exact u9 | exact u10 | exact u11 | exact u12 | exact u13) (by rfl)) ?_
      refine aops_nil ?_
      refine awp_seq ?_
      obtain ⟨hpe, hpu⟩ := qk_push hd hv hl12 k (by assumption)
      obtain ⟨hpc, hpl⟩ := qk_ok hd hv hl12 (k + 1) (by omega)
      refine awp_region ?_
      refine st_p (fun _ => by exact y_move (.plain rfl)) rfl ?_
      refine st_p (fun _ => by exact y_move (.plain rfl)) rfl ?_
      refine st_p (fun _ => by exact y_loadW (.plain rfl) (by first | exact .here | exact k1 | exact k2 | exact k3 | exact k4 | exact k5 | exact k6 | exact k7 | exact k8 | exact k9 | exact k10 | exact k11 | exact k12 | exact k13) (by rfl)) rfl ?_
      refine aops_call (blt_lt rfl) (.plain rfl) (.cons (.plain rfl) (.cons (.imp (.plain rfl) (Sl.imp (enc := encW))) (.cons (.imp (.plain rfl) (AV.Imp.agg (RowOf.imp (enc := encW)))) .nil))) (ACalls.here (push_c d (qk d l k) l[k] (by omega)) ?_)
      refine st_p (fun _ => by exact y_move (.plain rfl)) rfl ?_
      refine st_p (fun _ => by exact y_extract (.plain rfl) rfl) rfl ?_
      refine st_p (fun _ => by exact y_extract (.plain rfl) rfl) rfl ?_
      refine st_p (fun _ => by exact y_assign (.plain rfl)) rfl ?_
      refine st_p (fun _ => by exact y_assign (.plain rfl)) rfl ?_
      refine aops_nil ?_
      refine awp_seq ?_
      refine awp_seq ?_
      refine awp_region ?_
      refine st_p (fun _ => by exact y_move (.plain rfl)) rfl ?_
      refine st_p (fun _ => by exact y_neq (.plain rfl) (.plain rfl)) rfl ?_
      refine st_p (fun _ => by exact y_move (.plain rfl)) rfl ?_
      refine st_g rfl rfl rfl SaysI.out (fun hc _ => by exact y_move (.plain rfl)) rfl ?_
      refine st_g rfl rfl rfl SaysI.out (fun hc _ => by exact y_move (.plain rfl)) rfl ?_
      refine st_g rfl rfl rfl SaysI.out (fun hc _ => by exact y_call (.plain rfl) (.cons (.opt rfl hc) (.cons (.imp (.opt rfl hc) (Sl.imp (enc := encW))) .nil)) (ACalls.pure (check_c d (pushL d (qk d l k) l[k]) (by rw [hpu]; omega)))) rfl ?_
      refine st_g rfl rfl rfl SaysI.out (fun hc _ => by exact y_neq (.opt rfl hc) (.plain rfl)) rfl ?_
      refine st_p (fun _ => by exact y_or (.plain rfl) rfl rfl) rfl ?_
      refine aops_nil ?_
      refine awp_cond rfl (fun h3 => ?_) (fun h3 => ?_)
      · skip
        exfalso
        simp [hpe, hpu, hpc] at h3
      · skip
        try simp only [decide_eq_true_eq, decide_eq_false_iff_not, Bool.not_eq_true', Bool.not_eq_false', Bool.not_eq_true, Bool.not_eq_false, List.length_map, Int.ofNat_lt, Int.ofNat_le, Bool.or_eq_true, Bool.and_eq_true, Bool.or_eq_false_iff, Bool.and_eq_false_iff] at h3
        refine awp_skip ?_
        rw [hpu]
        refine awp_region ?_
        refine st_p (fun _ => by exact y_move (.plain rfl)) rfl ?_
        refine st_p (fun _ => by exact y_assign (.plain rfl)) rfl ?_
        refine aops_nil ?_
        refine awp_region ?_
        refine st_p (fun _ => by exact y_add (.plain rfl) (.plain rfl) (by first | omega | (simp; omega) | (simp at hc; omega) | (simp at hc ⊢; omega) | (simp; done))) rfl ?_
        refine st_p (fun _ => by exact y_move (.plain rfl)) rfl ?_
        refine aops_nil ?_
        refine ⟨k + 1, ?_, ?_, Weak.of2 (by (repeat (first | exact .nil _ | refine .cons rfl (by first | exact AV.Imp.refl _ | exact AV.Imp.trans AV.Imp.nil_sl (AV.Imp.of_eq (by rw [hq0]; rfl)) | exact Sl.imp | exact AV.Imp.agg RowOf.imp | exact AV.Imp.grow_sl | exact AV.Imp.nil_grow | exact AV.Imp.full_grow | exact AV.Imp.own_grow | exact AV.Imp.grow_of rfl | exact AV.Imp.sl_of rfl | exact AV.Imp.int_of (by omega) | exact AV.Imp.of_eq (by first | omega | simpa)) ?_)); done) (by (repeat (first | exact .refl _ | exact .nil _ | apply ItLe2.cons (by first | exact .here | exact k1 | exact k2 | exact k3 | exact k4 | exact k5 | exact k6 | exact k7 | exact k8 | exact k9 | exact k10 | exact k11 | exact k12 | exact k13) | apply ItLe2.cells (by first | exact .here | exact k1 | exact k2 | exact k3 | exact k4 | exact k5 | exact k6 | exact k7 | exact k8 | exact k9 | exact k10 | exact k11 | exact k12 | exact k13) (by repeat (first | exact .nil | refine .cons (by first | exact AV.Imp.refl _ | exact AV.Imp.trans AV.Imp.nil_sl (AV.Imp.of_eq (by rw [hq0]; rfl)) | exact Sl.imp | exact AV.Imp.agg RowOf.imp | exact AV.Imp.grow_sl | exact AV.Imp.nil_grow | exact AV.Imp.full_grow | exact AV.Imp.own_grow | exact AV.Imp.grow_of rfl | exact AV.Imp.sl_of rfl | exact AV.Imp.int_of (by omega) | exact AV.Imp.of_eq (by first | omega | simpa)) ?_)) | apply ItLe2.tail0)); done)⟩
        · exact ⟨by omega, trivial⟩
        · omega
    · skip
      try simp only [decide_eq_true_eq, decide_eq_false_iff_not, Bool.not_eq_true', Bool.not_eq_false', Bool.not_eq_true, Bool.not_eq_false, List.length_map, Int.ofNat_lt, Int.ofNat_le, Bool.or_eq_true, Bool.and_eq_true, Bool.or_eq_false_iff, Bool.and_eq_false_iff] at h2
      refine awp_exit ?_
      refine awp_seq ?_
      rcases Classical.em (l = []) with hl0 | hl0
      · skip
        obtain rfl : k = l.length := by omega
        obtain ⟨hqc, hql⟩ := qk_ok hd hv hl12 l.length (Nat.le_refl _)
        refine awp_region ?_
        refine st_p (fun _ => by exact y_move (.plain rfl)) rfl ?_
        refine st_p (fun _ => by exact y_call (.plain rfl) (.cons (.imp (.plain rfl) (AV.Imp.of_eq (by rw [hl0]))) .nil) (ACalls.pure cloneW0_c)) rfl ?_
        refine st_p (fun _ => by exact y_assign (.plain rfl)) rfl ?_
        refine aops_nil ?_
        refine awp_seq ?_
        refine awp_seq ?_
        refine awp_region ?_
        refine st_p (fun _ => by exact y_move (.plain rfl)) rfl ?_
        refine st_p (fun _ => by exact y_eql (.plain rfl) (.plain rfl)) rfl ?_
        refine aops_nil ?_
        refine awp_cond rfl (fun h4 => ?_) (fun h4 => ?_)
        · skip
          try simp only [decide_eq_true_eq, decide_eq_false_iff_not, Bool.not_eq_true', Bool.not_eq_false', Bool.not_eq_true, Bool.not_eq_false, List.length_map, Int.ofNat_lt, Int.ofNat_le, Bool.or_eq_true, Bool.and_eq_true, Bool.or_eq_false_iff, Bool.and_eq_false_iff] at h4
          obtain rfl := h4
          refine awp_region ?_
          refine st_p (fun _ => by exact y_move (.plain rfl)) rfl ?_
          refine aops_call (blt_lt rfl) (.plain rfl) (.cons (.plain rfl) (.cons (.plain rfl) .nil)) (ACalls.frame (st1 := []) sort0_c (List.Perm.refl _) ?_)
          rintro v st rfl
          refine aops_nil ?_
          refine awp_seq ?_
          refine awp_region ?_
          refine st_p (fun _ => by exact y_move (.plain rfl)) rfl ?_
          refine st_p (fun _ => by exact y_move (.plain rfl)) rfl ?_
          refine aops_call (blt_lt rfl) (.plain rfl) (.cons (.imp (.plain rfl) (Sl.imp (enc := encW))) (.cons (.imp (.plain rfl) (Sl.imp (enc := encW))) .nil)) (ACalls.here (equalW_c _ _ (by rw [hql]; omega)) ?_)
          refine st_p (fun _ => by exact y_move (.plain rfl)) rfl ?_
          refine st_g rfl rfl rfl SaysI.out (fun hc _ => by exact y_call (.plain rfl) .nil (ACalls.pure (awake_c))) rfl ?_
          refine st_p (fun _ => by exact y_and (.plain rfl) rfl rfl) rfl ?_
          refine st_p (fun _ => by exact y_assign (.plain rfl)) rfl ?_
          refine aops_nil ?_
          refine awp_ret ?_
          refine retG (.inr rfl) (.cons (.tmp rfl) .nil) (VShift.of1 (AV.Imp.refl _) (.nil _)) ⟨congrArg (fun x : (Bool) => (AV.bool x)) (show _ = (true) from ?_), rfl⟩
          subst hl0; rfl
        · skip
          try simp only [decide_eq_true_eq, decide_eq_false_iff_not, Bool.not_eq_true', Bool.not_eq_false', Bool.not_eq_true, Bool.not_eq_false, List.length_map, Int.ofNat_lt, Int.ofNat_le, Bool.or_eq_true, Bool.and_eq_true, Bool.or_eq_false_iff, Bool.and_eq_false_iff] at h4
          have hd2 := h4
          refine awp_skip ?_
          refine awp_seq ?_
          refine awp_region ?_
          refine st_p (fun _ => by exact y_move (.plain rfl)) rfl ?_
          refine st_p (fun _ => by exact y_move (.plain rfl)) rfl ?_
          refine aops_call (blt_lt rfl) (.plain rfl) (.cons (.imp (.plain rfl) (Sl.imp (enc := encW))) (.cons (.imp (.plain rfl) (Sl.imp (enc := encW))) .nil)) (ACalls.here (equalW_c _ _ (by rw [hql]; omega)) ?_)
          refine st_p (fun _ => by exact y_move (.plain rfl)) rfl ?_
          refine st_g rfl rfl rfl SaysI.out (fun hc _ => by exact y_call (.plain rfl) .nil (ACalls.pure (awake_c))) rfl ?_
          refine st_p (fun _ => by exact y_and (.plain rfl) rfl rfl) rfl ?_
          refine st_p (fun _ => by exact y_assign (.plain rfl)) rfl ?_
          refine aops_nil ?_
          refine awp_ret ?_
          refine retG (.inr rfl) (.cons (.tmp rfl) .nil) (VShift.of1 (AV.Imp.refl _) (.nil _)) ⟨congrArg (fun x : (Bool) => (AV.bool x)) (show _ = (true) from ?_), rfl⟩
          subst hl0; rcases hd with rfl | rfl <;> rfl
      · skip
        obtain rfl : k = l.length := by omega
        obtain ⟨hqc, hql⟩ := qk_ok hd hv hl12 l.length (Nat.le_refl _)
        refine awp_region ?_
        refine st_p (fun _ => by exact y_move (.plain rfl)) rfl ?_
        refine aops_call (blt_lt rfl) (.plain rfl) (.cons (.plain rfl) .nil) (ACalls.frame (st1 := []) (cloneArr_c l hl0 (by omega)) (List.Perm.refl _) ?_)
        rintro v st ⟨i, pad, rfl, rfl⟩
        refine st_p (fun _ => by exact y_assign (.plain rfl)) rfl ?_
        refine aops_nil ?_
        refine awp_seq ?_
        refine awp_seq ?_
        refine awp_region ?_
        refine st_p (fun _ => by exact y_move (.plain rfl)) rfl ?_
        refine st_p (fun _ => by exact y_eql (.plain rfl) (.plain rfl)) rfl ?_
        refine aops_nil ?_
        refine awp_cond rfl (fun h5 => ?_) (fun h5 => ?_)
        · skip
          try simp only [decide_eq_true_eq, decide_eq_false_iff_not, Bool.not_eq_true', Bool.not_eq_false', Bool.not_eq_true, Bool.not_eq_false, List.length_map, Int.ofNat_lt, Int.ofNat_le, Bool.or_eq_true, Bool.and_eq_true, Bool.or_eq_false_iff, Bool.and_eq_false_iff] at h5
          obtain rfl := h5
          refine awp_region ?_
          refine st_p (fun _ => by exact y_move (.plain rfl)) rfl ?_
          refine aops_call (blt_lt rfl) (.plain rfl) (.cons (.plain rfl) (.cons (.plain rfl) .nil)) (ACalls.frame (st1 := [.cells i _]) (sort_c i pad l hl0 hl12 hpr) (List.Perm.refl _) ?_)
          rintro v st rfl
          refine aops_nil ?_
          refine awp_seq ?_
          refine awp_weak (Weak.freeze (t := 10) (sz := 5) (xs := (psort l l.length).map encW) (fun x hx => by obtain ⟨y, _, rfl⟩ := List.mem_map.1 hx; rfl) (show _ = some (AV.arr i 0 _) by rw [List.length_map, psort_len]; rfl) .here) ?_
          refine awp_region ?_
          refine st_p (fun _ => by exact y_move (.plain rfl)) rfl ?_
          refine st_p (fun _ => by exact y_move (.plain rfl)) rfl ?_
          refine aops_call (blt_lt rfl) (.plain rfl) (.cons (.imp (.plain rfl) (Sl.imp (enc := encW))) (.cons (.imp (.plain rfl) (Sl.imp (enc := encW))) .nil)) (ACalls.here (equalW_c _ _ (by rw [hql]; omega)) ?_)
          refine st_p (fun _ => by exact y_move (.plain rfl)) rfl ?_
          refine st_g rfl rfl rfl SaysI.out (fun hc _ => by exact y_call (.plain rfl) .nil (ACalls.pure (awake_c))) rfl ?_
          refine st_p (fun _ => by exact y_and (.plain rfl) rfl rfl) rfl ?_
          refine st_p (fun _ => by exact y_assign (.plain rfl)) rfl ?_
          refine aops_nil ?_
          refine awp_ret ?_
          refine retG (.inr rfl) (.cons (.tmp rfl) .nil) (VShift.of1 (AV.Imp.refl _) (.nil _)) ⟨congrArg (fun x : (Bool) => (AV.bool x)) (show _ = (true) from ?_), rfl⟩
          simp [qk]
        · skip
          try simp only [decide_eq_true_eq, decide_eq_false_iff_not, Bool.not_eq_true', Bool.not_eq_false', Bool.not_eq_true, Bool.not_eq_false, List.length_map, Int.ofNat_lt, Int.ofNat_le, Bool.or_eq_true, Bool.and_eq_true, Bool.or_eq_false_iff, Bool.and_eq_false_iff] at h5
          have hd2 := h5
          refine awp_skip ?_
          refine awp_seq ?_
          refine awp_weak (Weak.freeze (t := 10) (sz := 5) (xs := (l).map encW) (fun x hx => by obtain ⟨y, _, rfl⟩ := List.mem_map.1 hx; rfl) (show _ = some (AV.arr i 0 _) by rw [List.length_map]; rfl) .here) ?_
          refine awp_region ?_
          refine st_p (fun _ => by exact y_move (.plain rfl)) rfl ?_
          refine st_p (fun _ => by exact y_move (.plain rfl)) rfl ?_
          refine aops_call (blt_lt rfl) (.plain rfl) (.cons (.imp (.plain rfl) (Sl.imp (enc := encW))) (.cons (.imp (.plain rfl) (Sl.imp (enc := encW))) .nil)) (ACalls.here (equalW_c _ _ (by rw [hql]; omega)) ?_)
          refine st_p (fun _ => by exact y_move (.plain rfl)) rfl ?_
          refine st_g rfl rfl rfl SaysI.out (fun hc _ => by exact y_call (.plain rfl) .nil (ACalls.pure (awake_c))) rfl ?_
          refine st_p (fun _ => by exact y_and (.plain rfl) rfl rfl) rfl ?_
          refine st_p (fun _ => by exact y_assign (.plain rfl)) rfl ?_
          refine aops_nil ?_
          refine awp_ret ?_
          refine retG (.inr rfl) (.cons (.tmp rfl) .nil) (VShift.of1 (AV.Imp.refl _) (.nil _)) ⟨congrArg (fun x : (Bool) => (AV.bool x)) (show _ = (true) from ?_), rfl⟩
          have hd1 : d = 1 := by omega
          subst hd1
          simp [qk]

set_option maxRecDepth 100000 in
theorem waitlistPriority_lifted (os : Os) (started : os.Started) (H : Type) (enc : TypeId × Value → H) :
    ReturnsInHanded {} Try.checked os 10 .any (Ytapmdkfhppbblaa.Rows.waitlistPrioritySpec.pre6 enc Try.prog Try.f10 Ytapmdkfhppbblaa.Rows.waitlistPriorityRow.domain false) (Ytapmdkfhppbblaa.Rows.waitlistPrioritySpec.post enc Try.prog Try.f10 false true false false) := by
  refine returnsInHanded_of_change (C := Try.checked) (s := Ytapmdkfhppbblaa.Rows.waitlistPrioritySpec) ownK started (by kernel_rfl) Try.func10
    (ChangeSpec.witness6 (C := Try.checked) (s := Ytapmdkfhppbblaa.Rows.waitlistPrioritySpec) false ⟨#[], #[.int .i64 0, .slice none 0 0], []⟩ 8 (by kernel_rfl) (by kernel_rfl) (by kernel_rfl) (by kernel_rfl) (by kernel_rfl)) ?_
  intro W base args ds gs before hval hW _ _
  refine law_row (TB := 4) (by rw [Try.params10]) ((.scalar rdI (by kernel_rfl) (.scalar rdQ (by kernel_rfl) .nil))) (fun a h => priorityLaw_c a.1 a.2.1) laidK (by kernel_rfl) rfl Try.underlying4 rfl (fun ds' h => ?_) hval hW
  rw [Try.params10] at h
  match ds', h with
  | [d0, d1], _ => rfl
namespace Ytapmdkfhppbblaa
theorem waitlistPriority_holds : Rows.WaitlistPrioritySaid :=
  OpenClaim.holds_of_wide 10 Try.f10 rfl rfl rfl rfl rfl rfl rfl ⟨rfl, rfl, rfl, rfl, rfl⟩ rfl rfl rfl rfl rfl (by kernel_rfl) Try.func10 (by kernel_rfl)
    (of_decide_eq_true (by kernel_rfl)) (by unfold Func.isWrapper; first | (rw [if_pos (by decide +kernel)]; kernel_rfl) | (rw [if_neg (by decide +kernel)]; exact ⟨rfl, rfl⟩))
    (fun os started H enc _ => waitlistPriority_lifted os started H enc)
end Ytapmdkfhppbblaa

end Go.Proofs
