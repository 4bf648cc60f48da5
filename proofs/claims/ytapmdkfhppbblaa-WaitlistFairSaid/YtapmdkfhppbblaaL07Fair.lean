/- WaitlistFair answers true for every input, and its arguments read as they did: the given statement WaitlistFairSaid. No condition. -/
import Derived.Test.YtapmdkfhppbblaaF07
import Derived.Test.YtapmdkfhppbblaaRows
set_option linter.unusedVariables false
set_option linter.unusedSimpArgs false
namespace Go.Proofs
open Go.Aw Wl
theorem fairLaw_c (l : List W) (u : Int) : ACalls Try.prog 9 [slW l, .int u] [] (fun v st => v = .bool true ∧ st = []) := by
  refine acalls_body Try.func9 (by kernel_rfl) rfl Try.ntmps9 (Nat.le_of_ble_eq_true rfl) ?_
  rw [Try.results9]
  refine awp_seq ?_
  refine awp_region ?_
  refine st_p (fun _ => by exact y_assign (.plain rfl)) rfl ?_
  refine aops_nil ?_
  refine awp_seq ?_
  refine awp_seq ?_
  refine awp_region ?_
  refine st_p (fun _ => by exact y_move (.plain rfl)) rfl ?_
  refine aops_call (blt_lt rfl) (.plain rfl) (.cons (.plain rfl) .nil) (ACalls.here (great_c _) ?_)
  refine st_p (fun _ => by exact y_move (.plain rfl)) rfl ?_
  refine st_g rfl rfl rfl (by first | exact Says.bool _ _ | exact Says.opt _ _ _) (fun hc _ => by exact y_move (.plain rfl)) rfl ?_
  refine st_g rfl rfl rfl (by first | exact Says.bool _ _ | exact Says.opt _ _ _) (fun hc _ => by exact y_move (.plain rfl)) rfl ?_
  refine st_g rfl rfl rfl (by first | exact Says.bool _ _ | exact Says.opt _ _ _) (fun hc _ => by exact y_call (.plain rfl) (.cons (.opt rfl hc) (.cons (.opt rfl hc) .nil)) (ACalls.pure (small_c l u (by first | omega | (simp at hc; omega))))) rfl ?_
  refine st_g rfl rfl rfl (by first | exact Says.bool _ _ | exact Says.opt _ _ _) (fun hc _ => by exact y_not (.opt rfl hc)) rfl ?_
  refine st_p (fun _ => by exact y_or (.plain rfl) rfl rfl) rfl ?_
  refine aops_nil ?_
  refine awp_cond rfl (fun h1 => ?_) (fun h1 => ?_)
  · skip
    try simp only [decide_eq_true_eq, decide_eq_false_iff_not, Bool.not_eq_true', Bool.not_eq_false', Bool.not_eq_true, Bool.not_eq_false, List.length_map, Int.ofNat_lt, Int.ofNat_le, Bool.or_eq_true, Bool.and_eq_true, Bool.or_eq_false_iff, Bool.and_eq_false_iff] at h1
    refine awp_seq ?_
    refine awp_region ?_
    refine aops_call (blt_lt rfl) (.plain rfl) .nil (ACalls.here awake_c ?_)
    refine st_p (fun _ => by exact y_assign (.plain rfl)) rfl ?_
    refine aops_nil ?_
    refine awp_ret ?_
    refine ret1 (.inr rfl) rfl ?_
    exact ⟨rfl, rfl⟩
  · skip
    try simp only [decide_eq_true_eq, decide_eq_false_iff_not, Bool.not_eq_true', Bool.not_eq_false', Bool.not_eq_true, Bool.not_eq_false, List.length_map, Int.ofNat_lt, Int.ofNat_le, Bool.or_eq_true, Bool.and_eq_true, Bool.or_eq_false_iff, Bool.and_eq_false_iff] at h1
    refine awp_skip ?_
    refine awp_seq ?_
    have hsm := small_u l u (by simpa using h1.2)
    have hgs := grant_len false l u
    have hga := grant_len true l u
    have hsp := strict_all l u
    have hhd := strict_head l u _ (Nat.le_refl _)
    rw [gst_all] at hhd
    have htk := fair_take l u
    have hcl : (grant false l u).g.length ≤ (grant true l u).g.length := by have := congrArg List.length htk; rw [List.length_take] at this; omega
    have hrf := fair_any l u
    refine awp_region ?_
    refine st_p (fun _ => by exact y_move (.plain rfl)) rfl ?_
    refine st_p (fun _ => by exact y_move (.plain rfl)) rfl ?_
    refine aops_call (blt_lt rfl) (.plain rfl) (.cons (.plain rfl) (.cons (.plain rfl) (.cons (.plain rfl) .nil))) (ACalls.here (grant_c l (by omega) u false (by omega)) ?_)
    refine st_p (fun _ => by exact y_move (.plain rfl)) rfl ?_
    refine st_p (fun _ => by exact y_extract (.plain rfl) rfl) rfl ?_
    refine st_p (fun _ => by exact y_extract (.plain rfl) rfl) rfl ?_
    refine st_p (fun _ => by exact y_extract (.plain rfl) rfl) rfl ?_
    refine st_p (fun _ => by exact y_assign (.plain rfl)) rfl ?_
    refine st_p (fun _ => by exact y_assign (.plain rfl)) rfl ?_
    refine st_p (fun _ => by exact y_assign (.plain rfl)) rfl ?_
    refine aops_nil ?_
    refine awp_seq ?_
    refine awp_region ?_
    refine st_p (fun _ => by exact y_move (.plain rfl)) rfl ?_
    refine st_p (fun _ => by exact y_move (.plain rfl)) rfl ?_
    refine aops_call (blt_lt rfl) (.plain rfl) (.cons (.plain rfl) (.cons (.plain rfl) (.cons (.plain rfl) .nil))) (ACalls.here (grant_c l (by omega) u true (by omega)) ?_)
    refine st_p (fun _ => by exact y_move (.plain rfl)) rfl ?_
    refine st_p (fun _ => by exact y_extract (.plain rfl) rfl) rfl ?_
    refine st_p (fun _ => by exact y_extract (.plain rfl) rfl) rfl ?_
    refine st_p (fun _ => by exact y_extract (.plain rfl) rfl) rfl ?_
    refine st_n (fun _ => by exact y_alloc) rfl fun n1 => ?_
    refine st_p (fun _ => by exact y_assign (.plain rfl)) rfl ?_
    refine st_p (fun _ => by exact y_assign (.plain rfl)) rfl ?_
    first | refine st_s (fun _ => by exact y_storeW (by rfl) rfl (.plain rfl) (.plain rfl) (by first | exact .here | exact .there .here | exact .there (.there .here) | exact .there (.there (.there .here)) | exact .there (.there (.there (.there .here))) | exact .there (.there (.there (.there (.there .here)))) | exact .there (.there (.there (.there (.there (.there .here)))))) (by rfl)) ?_ | refine st_s (fun _ => by exact y_store (by rfl) rfl (.plain rfl) (.plain rfl) (by first | exact .here | exact .there .here | exact .there (.there .here) | exact .there (.there (.there .here)) | exact .there (.there (.there (.there .here))) | exact .there (.there (.there (.there (.there .here)))) | exact .there (.there (.there (.there (.there (.there .here)))))) (Nat.le_of_ble_eq_true rfl)) ?_
    refine aops_nil ?_
    refine awp_seq ?_
    refine awp_seq ?_
    refine awp_region ?_
    refine st_p (fun _ => by exact y_move (.plain rfl)) rfl ?_
    refine st_p (fun _ => by exact y_move (.plain rfl)) rfl ?_
    refine st_p (fun _ => by exact y_buildSlice (.cons (.plain rfl) inferInstance (by rfl) (.cons (.plain rfl) inferInstance (by rfl) .nil)) rfl (Nat.le_of_ble_eq_true rfl)) rfl ?_
    refine aops_call (blt_lt rfl) (.plain rfl) (.cons (by first | exact (.plain rfl) | exact .imp (.plain rfl) (by first | exact AV.Imp.refl _ | exact AV.Imp.grow_sl | exact AV.Imp.full_sl | exact AV.Imp.own_sl | exact AV.Imp.nil_sl | exact AV.Imp.nil_full | exact AV.Imp.nil_grow | exact AV.Imp.full_grow | exact AV.Imp.own_grow | exact AV.Imp.of_eq (congrArg AV.int (by omega)) | exact AV.Imp.of_eq (by simp; try omega))) .nil) (ACalls.here (concat_c [(grant false l u).g, (grant false l u).o] (by simp) (by simp; omega)) ?_)
    refine st_p (fun _ => by exact y_move (.plain rfl)) rfl ?_
    refine aops_call (blt_lt rfl) (.plain rfl) (.cons (.plain rfl) (.cons (.plain rfl) .nil)) (ACalls.here (equal_c _ _ (by simp; omega)) ?_)
    refine st_p (fun _ => by exact y_not (.plain rfl)) rfl ?_
    refine st_p (fun _ => by exact y_move (.plain rfl)) rfl ?_
    refine st_g rfl rfl rfl (by first | exact Says.bool _ _ | exact Says.opt _ _ _) (fun hc _ => by exact y_move (.plain rfl)) rfl ?_
    first | refine st_g rfl rfl rfl (by first | exact Says.bool _ _ | exact Says.opt _ _ _) (fun hc _ => by exact y_len (.opt rfl hc)) rfl ?_ | refine st_g rfl rfl rfl (by first | exact Says.bool _ _ | exact Says.opt _ _ _) (fun hc _ => by exact y_lenArr (.opt rfl hc)) rfl ?_
    refine st_g rfl rfl rfl (by first | exact Says.bool _ _ | exact Says.opt _ _ _) (fun hc _ => by exact y_gtr (.opt rfl hc) (.plain rfl)) rfl ?_
    refine st_g rfl rfl rfl (by first | exact Says.bool _ _ | exact Says.opt _ _ _) (fun hc _ => by exact y_move (.opt rfl hc)) rfl ?_
    refine st_g rfl rfl rfl (by first | exact Says.bool _ _ | exact Says.opt _ _ _) (fun hc _ => by exact y_move (.plain rfl)) rfl ?_
    first | refine st_g rfl rfl rfl (by first | exact Says.bool _ _ | exact Says.opt _ _ _) (fun hc _ => by exact y_indexMap (.opt rfl hc) (.plain rfl) rfl (by refine ⟨?_, ?_⟩; (first | omega | (simp; omega) | (simp at hc; omega) | (simp at hc ⊢; omega) | (simp; done)); rfl)) rfl ?_ | refine st_g rfl rfl rfl (by first | exact Says.bool _ _ | exact Says.opt _ _ _) (fun hc _ => by exact y_indexT (.opt rfl hc) (.plain rfl) (by first | omega | (simp; omega) | (simp at hc; omega) | (simp at hc ⊢; omega) | (simp; done)) (by first | omega | (simp; omega) | (simp at hc; omega) | (simp at hc ⊢; omega) | (simp; done))) rfl ?_ | refine st_g rfl rfl rfl (by first | exact Says.bool _ _ | exact Says.opt _ _ _) (fun hc _ => by exact y_index (.opt rfl hc) (.plain rfl) (by omega) rfl) rfl ?_ | refine st_g rfl rfl rfl (by first | exact Says.bool _ _ | exact Says.opt _ _ _) (fun hc _ => by exact y_indexArr (.opt rfl hc) (.plain rfl) rfl (by first | omega | (simp; omega) | (simp at hc; omega) | (simp at hc ⊢; omega) | (simp; done))) rfl ?_ | refine st_g rfl rfl rfl (by first | exact Says.bool _ _ | exact Says.opt _ _ _) (fun hc _ => by exact y_indexVar (.opt rfl hc) (.plain rfl) rfl (by first | omega | (simp; omega) | (simp at hc; omega) | (simp at hc ⊢; omega) | (simp; done))) rfl ?_
    first | refine st_g rfl rfl rfl (by first | exact Says.bool _ _ | exact Says.opt _ _ _) (fun hc _ => by exact y_fieldPtr (.opt rfl hc)) rfl ?_ | refine st_g rfl rfl rfl (by first | exact Says.bool _ _ | exact Says.opt _ _ _) (fun hc _ => by exact y_fieldE (.opt rfl hc) (Nat.le_of_ble_eq_true rfl)) rfl ?_
    first | refine st_g rfl rfl rfl (by first | exact Says.bool _ _ | exact Says.opt _ _ _) (fun hc _ => by exact y_loadE (.opt rfl hc) rfl) rfl ?_ | refine st_g rfl rfl rfl (by first | exact Says.bool _ _ | exact Says.opt _ _ _) (fun hc _ => by exact y_loadEW (.opt rfl hc) (by rfl)) rfl ?_ | refine st_g rfl rfl rfl (by first | exact Says.bool _ _ | exact Says.opt _ _ _) (fun hc _ => by exact y_loadEAgg (.opt rfl hc) (Nat.le_of_ble_eq_true rfl)) rfl ?_ | refine st_g rfl rfl rfl (by first | exact Says.bool _ _ | exact Says.opt _ _ _) (fun hc _ => by exact y_load (.opt rfl hc) (by first | exact .here | exact .there .here | exact .there (.there .here) | exact .there (.there (.there .here)) | exact .there (.there (.there (.there .here))) | exact .there (.there (.there (.there (.there .here)))) | exact .there (.there (.there (.there (.there (.there .here)))))) rfl) rfl ?_ | refine st_g rfl rfl rfl (by first | exact Says.bool _ _ | exact Says.opt _ _ _) (fun hc _ => by exact y_loadW (.opt rfl hc) (by first | exact .here | exact .there .here | exact .there (.there .here) | exact .there (.there (.there .here)) | exact .there (.there (.there (.there .here))) | exact .there (.there (.there (.there (.there .here)))) | exact .there (.there (.there (.there (.there (.there .here)))))) (by rfl)) rfl ?_ | refine st_g rfl rfl rfl (by first | exact Says.bool _ _ | exact Says.opt _ _ _) (fun hc _ => by exact y_loadAgg (.opt rfl hc) (by first | exact .here | exact .there .here | exact .there (.there .here) | exact .there (.there (.there .here)) | exact .there (.there (.there (.there .here))) | exact .there (.there (.there (.there (.there .here)))) | exact .there (.there (.there (.there (.there (.there .here)))))) (Nat.le_of_ble_eq_true rfl)) rfl ?_
    refine st_g rfl rfl rfl (by first | exact Says.bool _ _ | exact Says.opt _ _ _) (fun hc _ => by exact y_geq (.opt rfl hc) (.plain rfl)) rfl ?_
    first | refine st_g rfl rfl rfl (by first | exact Says.bool _ _ | exact Says.opt _ _ _) (fun hc _ => by exact y_and' hc (.opt rfl hc) rfl rfl) rfl ?_ | refine st_g rfl rfl rfl (by first | exact Says.bool _ _ | exact Says.opt _ _ _) (fun hc _ => by exact y_and (.opt rfl hc) rfl rfl) rfl ?_
    refine st_g rfl rfl rfl (by first | exact Says.bool _ _ | exact Says.opt _ _ _) (fun hc _ => by exact y_move (.opt rfl hc)) rfl ?_
    refine st_g rfl rfl rfl (by first | exact Says.bool _ _ | exact Says.opt _ _ _) (fun hc _ => by exact y_move (.plain rfl)) rfl ?_
    first | refine st_g rfl rfl rfl (by first | exact Says.bool _ _ | exact Says.opt _ _ _) (fun hc _ => by exact y_indexMap (.opt rfl hc) (.plain rfl) rfl (by refine ⟨?_, ?_⟩; (first | omega | (simp; omega) | (simp at hc; omega) | (simp at hc ⊢; omega) | (simp; done)); rfl)) rfl ?_ | refine st_g rfl rfl rfl (by first | exact Says.bool _ _ | exact Says.opt _ _ _) (fun hc _ => by exact y_indexT (.opt rfl hc) (.plain rfl) (by first | omega | (simp; omega) | (simp at hc; omega) | (simp at hc ⊢; omega) | (simp; done)) (by first | omega | (simp; omega) | (simp at hc; omega) | (simp at hc ⊢; omega) | (simp; done))) rfl ?_ | refine st_g rfl rfl rfl (by first | exact Says.bool _ _ | exact Says.opt _ _ _) (fun hc _ => by exact y_index (.opt rfl hc) (.plain rfl) (by omega) rfl) rfl ?_ | refine st_g rfl rfl rfl (by first | exact Says.bool _ _ | exact Says.opt _ _ _) (fun hc _ => by exact y_indexArr (.opt rfl hc) (.plain rfl) rfl (by first | omega | (simp; omega) | (simp at hc; omega) | (simp at hc ⊢; omega) | (simp; done))) rfl ?_ | refine st_g rfl rfl rfl (by first | exact Says.bool _ _ | exact Says.opt _ _ _) (fun hc _ => by exact y_indexVar (.opt rfl hc) (.plain rfl) rfl (by first | omega | (simp; omega) | (simp at hc; omega) | (simp at hc ⊢; omega) | (simp; done))) rfl ?_
    first | refine st_g rfl rfl rfl (by first | exact Says.bool _ _ | exact Says.opt _ _ _) (fun hc _ => by exact y_fieldPtr (.opt rfl hc)) rfl ?_ | refine st_g rfl rfl rfl (by first | exact Says.bool _ _ | exact Says.opt _ _ _) (fun hc _ => by exact y_fieldE (.opt rfl hc) (Nat.le_of_ble_eq_true rfl)) rfl ?_
    first | refine st_g rfl rfl rfl (by first | exact Says.bool _ _ | exact Says.opt _ _ _) (fun hc _ => by exact y_loadE (.opt rfl hc) rfl) rfl ?_ | refine st_g rfl rfl rfl (by first | exact Says.bool _ _ | exact Says.opt _ _ _) (fun hc _ => by exact y_loadEW (.opt rfl hc) (by rfl)) rfl ?_ | refine st_g rfl rfl rfl (by first | exact Says.bool _ _ | exact Says.opt _ _ _) (fun hc _ => by exact y_loadEAgg (.opt rfl hc) (Nat.le_of_ble_eq_true rfl)) rfl ?_ | refine st_g rfl rfl rfl (by first | exact Says.bool _ _ | exact Says.opt _ _ _) (fun hc _ => by exact y_load (.opt rfl hc) (by first | exact .here | exact .there .here | exact .there (.there .here) | exact .there (.there (.there .here)) | exact .there (.there (.there (.there .here))) | exact .there (.there (.there (.there (.there .here)))) | exact .there (.there (.there (.there (.there (.there .here)))))) rfl) rfl ?_ | refine st_g rfl rfl rfl (by first | exact Says.bool _ _ | exact Says.opt _ _ _) (fun hc _ => by exact y_loadW (.opt rfl hc) (by first | exact .here | exact .there .here | exact .there (.there .here) | exact .there (.there (.there .here)) | exact .there (.there (.there (.there .here))) | exact .there (.there (.there (.there (.there .here)))) | exact .there (.there (.there (.there (.there (.there .here)))))) (by rfl)) rfl ?_ | refine st_g rfl rfl rfl (by first | exact Says.bool _ _ | exact Says.opt _ _ _) (fun hc _ => by exact y_loadAgg (.opt rfl hc) (by first | exact .here | exact .there .here | exact .there (.there .here) | exact .there (.there (.there .here)) | exact .there (.there (.there (.there .here))) | exact .there (.there (.there (.there (.there .here)))) | exact .there (.there (.there (.there (.there (.there .here)))))) (Nat.le_of_ble_eq_true rfl)) rfl ?_
    refine st_g rfl rfl rfl (by first | exact Says.bool _ _ | exact Says.opt _ _ _) (fun hc _ => by exact y_move (.plain rfl)) rfl ?_
    refine st_g rfl rfl rfl (by first | exact Says.bool _ _ | exact Says.opt _ _ _) (fun hc _ => by exact y_leq (.opt rfl hc) (.opt rfl hc)) rfl ?_
    first | refine st_g rfl rfl rfl (by first | exact Says.bool _ _ | exact Says.opt _ _ _) (fun hc _ => by exact y_and' hc (.opt rfl hc) rfl rfl) rfl ?_ | refine st_g rfl rfl rfl (by first | exact Says.bool _ _ | exact Says.opt _ _ _) (fun hc _ => by exact y_and (.opt rfl hc) rfl rfl) rfl ?_
    refine st_p (fun _ => by exact y_or (.plain rfl) rfl rfl) rfl ?_
    refine st_p (fun _ => by exact y_move (.plain rfl)) rfl ?_
    refine st_g rfl rfl rfl (by first | exact Says.bool _ _ | exact Says.opt _ _ _) (fun hc _ => by exact y_move (.plain rfl)) rfl ?_
    first | refine st_g rfl rfl rfl (by first | exact Says.bool _ _ | exact Says.opt _ _ _) (fun hc _ => by exact y_len (.opt rfl hc)) rfl ?_ | refine st_g rfl rfl rfl (by first | exact Says.bool _ _ | exact Says.opt _ _ _) (fun hc _ => by exact y_lenArr (.opt rfl hc)) rfl ?_
    refine st_g rfl rfl rfl (by first | exact Says.bool _ _ | exact Says.opt _ _ _) (fun hc _ => by exact y_move (.plain rfl)) rfl ?_
    first | refine st_g rfl rfl rfl (by first | exact Says.bool _ _ | exact Says.opt _ _ _) (fun hc _ => by exact y_len (.opt rfl hc)) rfl ?_ | refine st_g rfl rfl rfl (by first | exact Says.bool _ _ | exact Says.opt _ _ _) (fun hc _ => by exact y_lenArr (.opt rfl hc)) rfl ?_
    refine st_g rfl rfl rfl (by first | exact Says.bool _ _ | exact Says.opt _ _ _) (fun hc _ => by exact y_lss (.opt rfl hc) (.opt rfl hc)) rfl ?_
    refine st_p (fun _ => by exact y_or (.plain rfl) rfl rfl) rfl ?_
    refine st_p (fun _ => by exact y_move (.plain rfl)) rfl ?_
    refine st_g rfl rfl rfl (by first | exact Says.bool _ _ | exact Says.opt _ _ _) (fun hc _ => by exact y_move (.plain rfl)) rfl ?_
    refine st_g rfl rfl rfl (by first | exact Says.bool _ _ | exact Says.opt _ _ _) (fun hc _ => by exact y_move (.plain rfl)) rfl ?_
    first | refine st_g rfl rfl rfl (by first | exact Says.bool _ _ | exact Says.opt _ _ _) (fun hc _ => by exact y_len (.opt rfl hc)) rfl ?_ | refine st_g rfl rfl rfl (by first | exact Says.bool _ _ | exact Says.opt _ _ _) (fun hc _ => by exact y_lenArr (.opt rfl hc)) rfl ?_
    first | refine st_g rfl rfl rfl (by first | exact Says.bool _ _ | exact Says.opt _ _ _) (fun hc _ => by exact y_sliceNil (.opt rfl hc) (.opt rfl hc)) rfl ?_ | refine st_g rfl rfl rfl (by first | exact Says.bool _ _ | exact Says.opt _ _ _) (fun hc _ => by exact y_sliceRaw (.opt rfl hc) (.opt rfl hc)) rfl ?_ | refine st_g rfl rfl rfl (by first | exact Says.bool _ _ | exact Says.opt _ _ _) (fun hc _ => by exact y_sliceHiM (.opt rfl hc) (.opt rfl hc) rfl (by first | omega | (simp; omega) | (simp at hc; omega) | (simp at hc ⊢; omega) | (simp; done))) rfl ?_ | refine st_g rfl rfl rfl (by first | exact Says.bool _ _ | exact Says.opt _ _ _) (fun hc _ => by exact y_sliceHi (.opt rfl hc) (.opt rfl hc) rfl (by first | omega | (simp; omega) | (simp at hc; omega) | (simp at hc ⊢; omega) | (simp; done))) rfl ?_
    refine st_g rfl rfl rfl (by first | exact Says.bool _ _ | exact Says.opt _ _ _) (fun hc _ => by exact y_move (.plain rfl)) rfl ?_
    refine st_g rfl rfl rfl (by first | exact Says.bool _ _ | exact Says.opt _ _ _) (fun hc _ => by exact y_call (.plain rfl) (.cons (.opt rfl hc) (.cons (.opt rfl hc) .nil)) (ACalls.pure (equal_c _ _ (by simp; omega)))) rfl ?_
    refine st_g rfl rfl rfl (by first | exact Says.bool _ _ | exact Says.opt _ _ _) (fun hc _ => by exact y_not (.opt rfl hc)) rfl ?_
    refine st_p (fun _ => by exact y_or (.plain rfl) rfl rfl) rfl ?_
    refine aops_nil ?_
    refine awp_cond rfl (fun h2 => ?_) (fun h2 => ?_)
    · skip
      exfalso
      have e1 : [(grant false l u).g, (grant false l u).o].flatten = l := by simp [hsp]
      simp only [e1, List.length_map, htk, decide_true, Bool.not_true, Bool.false_or, Bool.or_false, Bool.or_eq_true, Bool.and_eq_true, decide_eq_true_eq, Int.toNat_zero] at h2
      rcases h2 with h2 | h2
      · exact hhd (by omega) ⟨h2.1.2, h2.2⟩
      · omega
    · skip
      try simp only [decide_eq_true_eq, decide_eq_false_iff_not, Bool.not_eq_true', Bool.not_eq_false', Bool.not_eq_true, Bool.not_eq_false, List.length_map, Int.ofNat_lt, Int.ofNat_le, Bool.or_eq_true, Bool.and_eq_true, Bool.or_eq_false_iff, Bool.and_eq_false_iff] at h2
      refine awp_skip ?_
      refine awp_seq ?_
      refine awp_region ?_
      refine st_p (fun _ => by exact y_move (.plain rfl)) rfl ?_
      refine st_p (fun _ => by exact y_makeFunc (.cons (.plain rfl) .nil)) rfl ?_
      refine aops_call (blt_lt rfl) (.plain rfl) (.cons (.plain rfl) (.cons (.plain rfl) .nil)) (ACalls.then (containsFunc_c (grant true l u).o (by omega) 35 [.ptr n1 0] (fun w => decide (0 ≤ w.value) && decide (w.value ≤ (grant true l u).u)) _ (fun w _ => fits_c _ n1 w)) ?_)
      refine st_p (fun _ => by exact y_not (.plain rfl)) rfl ?_
      refine st_p (fun _ => by exact y_move (.plain rfl)) rfl ?_
      refine st_g rfl rfl rfl (by first | exact Says.bool _ _ | exact Says.opt _ _ _) (fun hc _ => by exact y_call (.plain rfl) .nil (ACalls.pure awake_c)) rfl ?_
      refine st_p (fun _ => by exact y_and (.plain rfl) rfl rfl) rfl ?_
      refine st_p (fun _ => by exact y_assign (.plain rfl)) rfl ?_
      refine aops_nil ?_
      refine awp_ret ?_
      refine ret1 (.inr rfl) rfl ?_
      exact ⟨congrArg AV.bool (by rw [hrf]; rfl), rfl⟩

set_option maxRecDepth 100000 in
theorem waitlistFair_lifted (os : Os) (started : os.Started) (H : Type) (enc : TypeId × Value → H) :
    ReturnsInHanded {} Try.checked os 9 .any (Ytapmdkfhppbblaa.Rows.waitlistFairSpec.pre6 enc Try.prog Try.f9 Ytapmdkfhppbblaa.Rows.waitlistFairRow.domain false) (Ytapmdkfhppbblaa.Rows.waitlistFairSpec.post enc Try.prog Try.f9 false true false false) := by
  refine returnsInHanded_of_change (C := Try.checked) (s := Ytapmdkfhppbblaa.Rows.waitlistFairSpec) ownK started (by kernel_rfl) Try.func9
    (ChangeSpec.witness6 (C := Try.checked) (s := Ytapmdkfhppbblaa.Rows.waitlistFairSpec) false ⟨#[], #[.slice none 0 0, .int .i64 0], []⟩ 8 (by kernel_rfl) (by kernel_rfl) (by kernel_rfl) (by kernel_rfl) (by kernel_rfl)) ?_
  intro W base args ds gs before hval hW _ _
  refine law_row (TB := 4) (by rw [Try.params9]) ((.scalar rdL (by kernel_rfl) (.scalar rdI (by kernel_rfl) .nil))) (fun a h => fairLaw_c a.1 a.2.1) laidK (by kernel_rfl) rfl Try.underlying4 rfl (fun ds' h => ?_) hval hW
  rw [Try.params9] at h
  match ds', h with
  | [d0, d1], _ => rfl
namespace Ytapmdkfhppbblaa
theorem waitlistFair_holds : Rows.WaitlistFairSaid :=
  OpenClaim.holds_of_wide 9 Try.f9 rfl rfl rfl rfl rfl rfl rfl ⟨rfl, rfl, rfl, rfl, rfl⟩ rfl rfl rfl rfl rfl (by kernel_rfl) Try.func9 (by kernel_rfl)
    (of_decide_eq_true (by kernel_rfl)) (by unfold Func.isWrapper; first | (rw [if_pos (by decide +kernel)]; kernel_rfl) | (rw [if_neg (by decide +kernel)]; exact ⟨rfl, rfl⟩))
    (fun os started H enc _ => waitlistFair_lifted os started H enc)
end Ytapmdkfhppbblaa

end Go.Proofs
