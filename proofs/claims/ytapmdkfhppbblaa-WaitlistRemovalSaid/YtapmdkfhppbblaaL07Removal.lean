/- WaitlistRemoval answers true for every input, and its arguments read as they did: the given statement WaitlistRemovalSaid. No condition. -/
import Derived.Test.YtapmdkfhppbblaaD07
import Derived.Test.YtapmdkfhppbblaaRows
set_option linter.unusedVariables false
set_option linter.unusedSimpArgs false
namespace Go.Proofs
open Go.Aw Wl
theorem removalLaw_c (l : List W) (t u : Int) : ACalls Try.prog 5 [slW l, .int t, .int u] [] (fun v st => v = .bool true ∧ st = []) := by
  refine acalls_body Try.func5 (by kernel_rfl) rfl Try.ntmps5 (Nat.le_of_ble_eq_true rfl) ?_
  rw [Try.results5]
  refine awp_seq ?_
  refine awp_region ?_
  refine st_p (fun _ => by exact y_assign (.plain rfl)) rfl ?_
  refine aops_nil ?_
  refine awp_seq ?_
  refine awp_seq ?_
  refine awp_region ?_
  refine st_p (fun _ => by exact y_move (.plain rfl)) rfl ?_
  refine aops_call (blt_lt rfl) (.plain rfl) (.cons (.plain rfl) .nil) (ACalls.here (great_c _) ?_)
  refine aops_nil ?_
  refine awp_cond rfl (fun h1 => ?_) (fun h1 => ?_)
  · skip
    try simp only [decide_eq_true_eq, decide_eq_false_iff_not, Bool.not_eq_true', Bool.not_eq_false', Bool.not_eq_true, Bool.not_eq_false, List.length_map, Int.ofNat_lt, Int.ofNat_le, Bool.or_eq_true, Bool.and_eq_true, Bool.or_eq_false_iff, Bool.and_eq_false_iff] at h1
    refine awp_seq ?_
    refine awp_region ?_
    refine aops_call (blt_lt rfl) (.plain rfl) .nil (ACalls.here awake_c ?_)
    refine st_p (fun _ => by exact y_assign (.plain rfl)) rfl ?_
    refine aops_nil ?_
    refine awp_ret ?_
    refine ret1 (.inr rfl) rfl ?_
    exact ⟨rfl, rfl⟩
  · skip
    try simp only [decide_eq_true_eq, decide_eq_false_iff_not, Bool.not_eq_true', Bool.not_eq_false', Bool.not_eq_true, Bool.not_eq_false, List.length_map, Int.ofNat_lt, Int.ofNat_le, Bool.or_eq_true, Bool.and_eq_true, Bool.or_eq_false_iff, Bool.and_eq_false_iff] at h1
    refine awp_skip ?_
    refine awp_seq ?_
    refine awp_region ?_
    refine st_p (fun _ => by exact y_move (.plain rfl)) rfl ?_
    refine st_p (fun _ => by exact y_move (.plain rfl)) rfl ?_
    refine aops_call (blt_lt rfl) (.plain rfl) (.cons (.plain rfl) (.cons (.plain rfl) .nil)) (ACalls.here (remove_c l t (by omega)) ?_)
    refine st_p (fun _ => by exact y_assign (.plain rfl)) rfl ?_
    refine aops_nil ?_
    refine awp_seq ?_
    have hr : (remove l t).length ≤ 1000000 := by have := remove_len l t; omega
    refine awp_region ?_
    refine st_p (fun _ => by exact y_move (.plain rfl)) rfl ?_
    refine st_p (fun _ => by exact y_move (.plain rfl)) rfl ?_
    refine aops_call (blt_lt rfl) (.plain rfl) (.cons (.plain rfl) (.cons (.plain rfl) .nil)) (ACalls.here (find_c _ _ hr) ?_)
    refine st_p (fun _ => by exact y_move (.plain rfl)) rfl ?_
    refine st_p (fun _ => by exact y_extract (.plain rfl) rfl) rfl ?_
    refine st_p (fun _ => by exact y_extract (.plain rfl) rfl) rfl ?_
    refine st_p (fun _ => by exact y_assign (.plain rfl)) rfl ?_
    refine st_p (fun _ => by exact y_assign (.plain rfl)) rfl ?_
    refine aops_nil ?_
    refine awp_seq ?_
    refine awp_region ?_
    refine st_p (fun _ => by exact y_assign (.plain rfl)) rfl ?_
    refine aops_nil ?_
    refine awp_seq ?_
    refine awp_seq ?_
    refine awp_region ?_
    refine st_p (fun _ => by exact y_move (.plain rfl)) rfl ?_
    first | refine st_p (fun _ => by exact y_len (.plain rfl)) rfl ?_ | refine st_p (fun _ => by exact y_lenArr (.plain rfl)) rfl ?_
    refine st_p (fun _ => by exact y_move (.plain rfl)) rfl ?_
    refine aops_nil ?_
    refine awp_block ?_
    refine awp_loop (X := Nat) (fun x => [(0, slW l), (1, .int t), (2, .int u), (7, slW (remove l t)), (9, .bool (findB (remove l t) t)), (10, .int ((remove (l.take x) t).length : Int)), (27, slW l), (28, .int ((l.map encW).length : Int)), (29, .int (x : Int))]) (fun x => []) (fun x => x ≤ l.length) (fun x => l.length - x) 0 (Nat.zero_le _) ?_ ?_
    · exact Weak.of (by (repeat (first | exact .nil _ | refine .cons rfl (by first | exact AV.Imp.refl _ | exact AV.Imp.grow_sl | exact AV.Imp.full_sl | exact AV.Imp.own_sl | exact AV.Imp.nil_sl | exact AV.Imp.nil_full | exact AV.Imp.nil_grow | exact AV.Imp.full_grow | exact AV.Imp.own_grow | exact AV.Imp.of_eq (congrArg AV.int (by omega)) | exact AV.Imp.of_eq (by simp; try omega)) ?_)); done) (by (repeat (first | exact .nil _ | refine .cons (by first | exact .here | exact .there .here | exact .there (.there .here) | exact .there (.there (.there .here)) | exact .there (.there (.there (.there .here))) | exact .there (.there (.there (.there (.there .here)))) | exact .there (.there (.there (.there (.there (.there .here)))))) ?_)); done)
    · intro k hk
      refine awp_seq ?_
      refine awp_region ?_
      refine st_p (fun _ => by exact y_lss (.plain rfl) (.plain rfl)) rfl ?_
      refine aops_nil ?_
      refine awp_seq ?_
      refine awp_cond rfl (fun h2 => ?_) (fun h2 => ?_)
      · skip
        try simp only [decide_eq_true_eq, decide_eq_false_iff_not, Bool.not_eq_true', Bool.not_eq_false', Bool.not_eq_true, Bool.not_eq_false, List.length_map, Int.ofNat_lt, Int.ofNat_le, Bool.or_eq_true, Bool.and_eq_true, Bool.or_eq_false_iff, Bool.and_eq_false_iff] at h2
        refine awp_skip ?_
        refine awp_seq ?_
        refine awp_block ?_
        refine awp_seq ?_
        refine awp_region ?_
        first | refine st_p (fun _ => by exact y_indexMap (.plain rfl) (.plain rfl) rfl (by refine ⟨?_, ?_⟩; (first | omega | (simp; omega) | (simp at hc; omega) | (simp at hc ⊢; omega) | (simp; done)); rfl)) rfl ?_ | refine st_p (fun _ => by exact y_indexT (.plain rfl) (.plain rfl) (by first | omega | (simp; omega) | (simp at hc; omega) | (simp at hc ⊢; omega) | (simp; done)) (by first | omega | (simp; omega) | (simp at hc; omega) | (simp at hc ⊢; omega) | (simp; done))) rfl ?_ | refine st_p (fun _ => by exact y_index (.plain rfl) (.plain rfl) (by omega) rfl) rfl ?_ | refine st_p (fun _ => by exact y_indexArr (.plain rfl) (.plain rfl) rfl (by first | omega | (simp; omega) | (simp at hc; omega) | (simp at hc ⊢; omega) | (simp; done))) rfl ?_ | refine st_p (fun _ => by exact y_indexVar (.plain rfl) (.plain rfl) rfl (by first | omega | (simp; omega) | (simp at hc; omega) | (simp at hc ⊢; omega) | (simp; done))) rfl ?_
        first | refine st_p (fun _ => by exact y_loadE (.plain rfl) rfl) rfl ?_ | refine st_p (fun _ => by exact y_loadEW (.plain rfl) (by rfl)) rfl ?_ | refine st_p (fun _ => by exact y_loadEAgg (.plain rfl) (Nat.le_of_ble_eq_true rfl)) rfl ?_ | refine st_p (fun _ => by exact y_load (.plain rfl) (by first | exact .here | exact .there .here | exact .there (.there .here) | exact .there (.there (.there .here)) | exact .there (.there (.there (.there .here))) | exact .there (.there (.there (.there (.there .here)))) | exact .there (.there (.there (.there (.there (.there .here)))))) rfl) rfl ?_ | refine st_p (fun _ => by exact y_loadW (.plain rfl) (by first | exact .here | exact .there .here | exact .there (.there .here) | exact .there (.there (.there .here)) | exact .there (.there (.there (.there .here))) | exact .there (.there (.there (.there (.there .here)))) | exact .there (.there (.there (.there (.there (.there .here)))))) (by rfl)) rfl ?_ | refine st_p (fun _ => by exact y_loadAgg (.plain rfl) (by first | exact .here | exact .there .here | exact .there (.there .here) | exact .there (.there (.there .here)) | exact .there (.there (.there (.there .here))) | exact .there (.there (.there (.there (.there .here)))) | exact .there (.there (.there (.there (.there (.there .here)))))) (Nat.le_of_ble_eq_true rfl)) rfl ?_
        refine st_n (fun _ => by exact y_alloc) rfl fun n1 => ?_
        first | refine st_s (fun _ => by exact y_storeW (by rfl) rfl (.plain rfl) (.plain rfl) (by first | exact .here | exact .there .here | exact .there (.there .here) | exact .there (.there (.there .here)) | exact .there (.there (.there (.there .here))) | exact .there (.there (.there (.there (.there .here)))) | exact .there (.there (.there (.there (.there (.there .here)))))) (by rfl)) ?_ | refine st_s (fun _ => by exact y_store (by rfl) rfl (.plain rfl) (.plain rfl) (by first | exact .here | exact .there .here | exact .there (.there .here) | exact .there (.there (.there .here)) | exact .there (.there (.there (.there .here))) | exact .there (.there (.there (.there (.there .here)))) | exact .there (.there (.there (.there (.there (.there .here)))))) (Nat.le_of_ble_eq_true rfl)) ?_
        refine aops_nil ?_
        refine awp_seq ?_
        refine awp_region ?_
        first | refine st_p (fun _ => by exact y_fieldPtr (.plain rfl)) rfl ?_ | refine st_p (fun _ => by exact y_fieldE (.plain rfl) (Nat.le_of_ble_eq_true rfl)) rfl ?_
        first | refine st_p (fun _ => by exact y_loadE (.plain rfl) rfl) rfl ?_ | refine st_p (fun _ => by exact y_loadEW (.plain rfl) (by rfl)) rfl ?_ | refine st_p (fun _ => by exact y_loadEAgg (.plain rfl) (Nat.le_of_ble_eq_true rfl)) rfl ?_ | refine st_p (fun _ => by exact y_load (.plain rfl) (by first | exact .here | exact .there .here | exact .there (.there .here) | exact .there (.there (.there .here)) | exact .there (.there (.there (.there .here))) | exact .there (.there (.there (.there (.there .here)))) | exact .there (.there (.there (.there (.there (.there .here)))))) rfl) rfl ?_ | refine st_p (fun _ => by exact y_loadW (.plain rfl) (by first | exact .here | exact .there .here | exact .there (.there .here) | exact .there (.there (.there .here)) | exact .there (.there (.there (.there .here))) | exact .there (.there (.there (.there (.there .here)))) | exact .there (.there (.there (.there (.there (.there .here)))))) (by rfl)) rfl ?_ | refine st_p (fun _ => by exact y_loadAgg (.plain rfl) (by first | exact .here | exact .there .here | exact .there (.there .here) | exact .there (.there (.there .here)) | exact .there (.there (.there (.there .here))) | exact .there (.there (.there (.there (.there .here)))) | exact .there (.there (.there (.there (.there (.there .here)))))) (Nat.le_of_ble_eq_true rfl)) rfl ?_
        refine st_p (fun _ => by exact y_move (.plain rfl)) rfl ?_
        first | refine st_p (fun _ => by exact y_neq (.plain rfl) (.plain rfl)) rfl ?_ | refine st_p (fun _ => by exact y_neBool (by rfl) (.plain rfl) (.plain rfl)) rfl ?_ | refine st_p (fun _ => by exact y_neStruct (.plain rfl) (.plain rfl) .nil) rfl ?_
        refine aops_nil ?_
        refine awp_cond rfl (fun h3 => ?_) (fun h3 => ?_)
        · skip
          try simp only [decide_eq_true_eq, decide_eq_false_iff_not, Bool.not_eq_true', Bool.not_eq_false', Bool.not_eq_true, Bool.not_eq_false, List.length_map, Int.ofNat_lt, Int.ofNat_le, Bool.or_eq_true, Bool.and_eq_true, Bool.or_eq_false_iff, Bool.and_eq_false_iff] at h3
          refine awp_seq ?_
          refine awp_seq ?_
          obtain ⟨hj, he⟩ := rem_at l t k h2 h3
          refine awp_any0 (ks := [.free, .free, .free, .free, .free, .free, .free, .free, .free, .free, .free, .free]) (by kernel_rfl) (fun K => ?_) ?_
          · skip
            refine dr_p (fun _ => by exact y_move (.plain rfl)) rfl ?_
            refine dr_p (fun _ => by exact y_move (.plain rfl)) rfl ?_
            first | refine dr_p (fun _ => by exact y_len (.plain rfl)) rfl ?_ | refine dr_p (fun _ => by exact y_lenArr (.plain rfl)) rfl ?_
            refine dr_p (fun _ => by exact y_geq (.plain rfl) (.plain rfl)) rfl ?_
            refine dr_p (fun _ => by exact y_move (.plain rfl)) rfl ?_
            refine dr_g rfl rfl rfl (by first | exact Says.bool _ _ | exact Says.opt _ _ _) (fun hc _ => by exact y_move (.plain rfl)) rfl ?_
            refine dr_g rfl rfl rfl (by first | exact Says.bool _ _ | exact Says.opt _ _ _) (fun hc _ => by exact y_move (.plain rfl)) rfl ?_
            first | refine dr_g rfl rfl rfl (by first | exact Says.bool _ _ | exact Says.opt _ _ _) (fun hc _ => by exact y_indexMap (.opt rfl hc) (.opt rfl hc) rfl (by refine ⟨?_, ?_⟩; (first | omega | (simp; omega) | (simp at hc; omega) | (simp at hc ⊢; omega) | (simp; done)); rfl)) rfl ?_ | refine dr_g rfl rfl rfl (by first | exact Says.bool _ _ | exact Says.opt _ _ _) (fun hc _ => by exact y_indexT (.opt rfl hc) (.opt rfl hc) (by first | omega | (simp; omega) | (simp at hc; omega) | (simp at hc ⊢; omega) | (simp; done)) (by first | omega | (simp; omega) | (simp at hc; omega) | (simp at hc ⊢; omega) | (simp; done))) rfl ?_ | refine dr_g rfl rfl rfl (by first | exact Says.bool _ _ | exact Says.opt _ _ _) (fun hc _ => by exact y_index (.opt rfl hc) (.opt rfl hc) (by omega) rfl) rfl ?_ | refine dr_g rfl rfl rfl (by first | exact Says.bool _ _ | exact Says.opt _ _ _) (fun hc _ => by exact y_indexArr (.opt rfl hc) (.opt rfl hc) rfl (by first | omega | (simp; omega) | (simp at hc; omega) | (simp at hc ⊢; omega) | (simp; done))) rfl ?_ | refine dr_g rfl rfl rfl (by first | exact Says.bool _ _ | exact Says.opt _ _ _) (fun hc _ => by exact y_indexVar (.opt rfl hc) (.opt rfl hc) rfl (by first | omega | (simp; omega) | (simp at hc; omega) | (simp at hc ⊢; omega) | (simp; done))) rfl ?_
            first | refine dr_g rfl rfl rfl (by first | exact Says.bool _ _ | exact Says.opt _ _ _) (fun hc _ => by exact y_loadE (.opt rfl hc) rfl) rfl ?_ | refine dr_g rfl rfl rfl (by first | exact Says.bool _ _ | exact Says.opt _ _ _) (fun hc _ => by exact y_loadEW (.opt rfl hc) (by rfl)) rfl ?_ | refine dr_g rfl rfl rfl (by first | exact Says.bool _ _ | exact Says.opt _ _ _) (fun hc _ => by exact y_loadEAgg (.opt rfl hc) (Nat.le_of_ble_eq_true rfl)) rfl ?_ | refine dr_g rfl rfl rfl (by first | exact Says.bool _ _ | exact Says.opt _ _ _) (fun hc _ => by exact y_load (.opt rfl hc) (by first | exact .here | exact .there .here | exact .there (.there .here) | exact .there (.there (.there .here)) | exact .there (.there (.there (.there .here))) | exact .there (.there (.there (.there (.there .here)))) | exact .there (.there (.there (.there (.there (.there .here)))))) rfl) rfl ?_ | refine dr_g rfl rfl rfl (by first | exact Says.bool _ _ | exact Says.opt _ _ _) (fun hc _ => by exact y_loadW (.opt rfl hc) (by first | exact .here | exact .there .here | exact .there (.there .here) | exact .there (.there (.there .here)) | exact .there (.there (.there (.there .here))) | exact .there (.there (.there (.there (.there .here)))) | exact .there (.there (.there (.there (.there (.there .here)))))) (by rfl)) rfl ?_ | refine dr_g rfl rfl rfl (by first | exact Says.bool _ _ | exact Says.opt _ _ _) (fun hc _ => by exact y_loadAgg (.opt rfl hc) (by first | exact .here | exact .there .here | exact .there (.there .here) | exact .there (.there (.there .here)) | exact .there (.there (.there (.there .here))) | exact .there (.there (.there (.there (.there .here)))) | exact .there (.there (.there (.there (.there (.there .here)))))) (Nat.le_of_ble_eq_true rfl)) rfl ?_
            first | refine dr_g rfl rfl rfl (by first | exact Says.bool _ _ | exact Says.opt _ _ _) (fun hc _ => by exact y_loadE (.plain rfl) rfl) rfl ?_ | refine dr_g rfl rfl rfl (by first | exact Says.bool _ _ | exact Says.opt _ _ _) (fun hc _ => by exact y_loadEW (.plain rfl) (by rfl)) rfl ?_ | refine dr_g rfl rfl rfl (by first | exact Says.bool _ _ | exact Says.opt _ _ _) (fun hc _ => by exact y_loadEAgg (.plain rfl) (Nat.le_of_ble_eq_true rfl)) rfl ?_ | refine dr_g rfl rfl rfl (by first | exact Says.bool _ _ | exact Says.opt _ _ _) (fun hc _ => by exact y_load (.plain rfl) (by first | exact .here | exact .there .here | exact .there (.there .here) | exact .there (.there (.there .here)) | exact .there (.there (.there (.there .here))) | exact .there (.there (.there (.there (.there .here)))) | exact .there (.there (.there (.there (.there (.there .here)))))) rfl) rfl ?_ | refine dr_g rfl rfl rfl (by first | exact Says.bool _ _ | exact Says.opt _ _ _) (fun hc _ => by exact y_loadW (.plain rfl) (by first | exact .here | exact .there .here | exact .there (.there .here) | exact .there (.there (.there .here)) | exact .there (.there (.there (.there .here))) | exact .there (.there (.there (.there (.there .here)))) | exact .there (.there (.there (.there (.there (.there .here)))))) (by rfl)) rfl ?_ | refine dr_g rfl rfl rfl (by first | exact Says.bool _ _ | exact Says.opt _ _ _) (fun hc _ => by exact y_loadAgg (.plain rfl) (by first | exact .here | exact .there .here | exact .there (.there .here) | exact .there (.there (.there .here)) | exact .there (.there (.there (.there .here))) | exact .there (.there (.there (.there (.there .here)))) | exact .there (.there (.there (.there (.there (.there .here)))))) (Nat.le_of_ble_eq_true rfl)) rfl ?_
            first | refine dr_g rfl rfl rfl (by first | exact Says.bool _ _ | exact Says.opt _ _ _) (fun hc _ => by exact y_neq (.opt rfl hc) (.opt rfl hc)) rfl ?_ | refine dr_g rfl rfl rfl (by first | exact Says.bool _ _ | exact Says.opt _ _ _) (fun hc _ => by exact y_neBool (by rfl) (.opt rfl hc) (.opt rfl hc)) rfl ?_ | refine dr_g rfl rfl rfl (by first | exact Says.bool _ _ | exact Says.opt _ _ _) (fun hc _ => by exact y_neStruct (.opt rfl hc) (.opt rfl hc) (.int (k' := .i64) (by kernel_rfl) (.int (k' := .i64) (by kernel_rfl) (.int (k' := .i64) (by kernel_rfl) (.int (k' := .i64) (by kernel_rfl) (.int (k' := .i64) (by kernel_rfl) .nil)))))) rfl ?_
            refine dr_p (fun _ => by exact y_or (.plain rfl) rfl rfl) rfl ?_
            refine dr_nil ⟨rfl, ?_⟩
            refine awp_cond rfl (fun h4 => ?_) (fun h4 => ?_)
            · skip
              exfalso
              rw [he] at h4
              simp at h4
              omega
            · skip
              try simp only [decide_eq_true_eq, decide_eq_false_iff_not, Bool.not_eq_true', Bool.not_eq_false', Bool.not_eq_true, Bool.not_eq_false, List.length_map, Int.ofNat_lt, Int.ofNat_le, Bool.or_eq_true, Bool.and_eq_true, Bool.or_eq_false_iff, Bool.and_eq_false_iff] at h4
              refine awp_skip ?_
              have hkl := remove_len (l.take k) t
              rw [List.length_take] at hkl
              refine awp_region ?_
              refine st_p (fun _ => by exact y_move (.plain rfl)) rfl ?_
              refine st_p (fun _ => by exact y_add (.plain rfl) (.plain rfl) (by first | omega | (simp; omega) | (simp at hc; omega) | (simp at hc ⊢; omega) | (simp; done))) rfl ?_
              refine st_p (fun _ => by exact y_assign (.plain rfl)) rfl ?_
              refine aops_nil ?_
              refine awp_region ?_
              refine st_p (fun _ => by exact y_add (.plain rfl) (.plain rfl) (by first | omega | (simp; omega) | (simp at hc; omega) | (simp at hc ⊢; omega) | (simp; done))) rfl ?_
              refine st_p (fun _ => by exact y_move (.plain rfl)) rfl ?_
              refine aops_nil ?_
              exact ⟨k + 1, by omega, by omega, Weak.of (by (repeat (first | exact .nil _ | refine .cons rfl (by first | exact AV.Imp.refl _ | exact AV.Imp.of_eq (congrArg AV.int (by rw [remove_t l t k h2 h3]; simp))) ?_ | refine .cons rfl (by first | exact AV.Imp.refl _ | exact AV.Imp.grow_sl | exact AV.Imp.full_sl | exact AV.Imp.own_sl | exact AV.Imp.nil_sl | exact AV.Imp.nil_full | exact AV.Imp.nil_grow | exact AV.Imp.full_grow | exact AV.Imp.own_grow | exact AV.Imp.of_eq (congrArg AV.int (by omega)) | exact AV.Imp.of_eq (by simp; try omega)) ?_)); done) (by (repeat (first | exact .nil _ | refine .cons (by first | exact .here | exact .there .here | exact .there (.there .here) | exact .there (.there (.there .here)) | exact .there (.there (.there (.there .here))) | exact .there (.there (.there (.there (.there .here)))) | exact .there (.there (.there (.there (.there (.there .here)))))) ?_)); done)⟩
          · kernel_rfl
        · skip
          try simp only [decide_eq_true_eq, decide_eq_false_iff_not, Bool.not_eq_true', Bool.not_eq_false', Bool.not_eq_true, Bool.not_eq_false, List.length_map, Int.ofNat_lt, Int.ofNat_le, Bool.or_eq_true, Bool.and_eq_true, Bool.or_eq_false_iff, Bool.and_eq_false_iff] at h3
          refine awp_skip ?_
          refine awp_region ?_
          refine st_p (fun _ => by exact y_add (.plain rfl) (.plain rfl) (by first | omega | (simp; omega) | (simp at hc; omega) | (simp at hc ⊢; omega) | (simp; done))) rfl ?_
          refine st_p (fun _ => by exact y_move (.plain rfl)) rfl ?_
          refine aops_nil ?_
          exact ⟨k + 1, by omega, by omega, Weak.of (by (repeat (first | exact .nil _ | refine .cons rfl (by first | exact AV.Imp.refl _ | exact AV.Imp.of_eq (congrArg AV.int (by rw [remove_f l t k h2 h3]))) ?_ | refine .cons rfl (by first | exact AV.Imp.refl _ | exact AV.Imp.grow_sl | exact AV.Imp.full_sl | exact AV.Imp.own_sl | exact AV.Imp.nil_sl | exact AV.Imp.nil_full | exact AV.Imp.nil_grow | exact AV.Imp.full_grow | exact AV.Imp.own_grow | exact AV.Imp.of_eq (congrArg AV.int (by omega)) | exact AV.Imp.of_eq (by simp; try omega)) ?_)); done) (by (repeat (first | exact .nil _ | refine .cons (by first | exact .here | exact .there .here | exact .there (.there .here) | exact .there (.there (.there .here)) | exact .there (.there (.there (.there .here))) | exact .there (.there (.there (.there (.there .here)))) | exact .there (.there (.there (.there (.there (.there .here)))))) ?_)); done)⟩
      · skip
        try simp only [decide_eq_true_eq, decide_eq_false_iff_not, Bool.not_eq_true', Bool.not_eq_false', Bool.not_eq_true, Bool.not_eq_false, List.length_map, Int.ofNat_lt, Int.ofNat_le, Bool.or_eq_true, Bool.and_eq_true, Bool.or_eq_false_iff, Bool.and_eq_false_iff] at h2
        refine awp_exit ?_
        refine awp_seq ?_
        refine awp_region ?_
        refine st_p (fun _ => by exact y_move (.plain rfl)) rfl ?_
        refine st_p (fun _ => by exact y_move (.plain rfl)) rfl ?_
        refine aops_call (blt_lt rfl) (.plain rfl) (.cons (.plain rfl) (.cons (.plain rfl) .nil)) (ACalls.here (remove_c (remove l t) u hr) ?_)
        refine st_p (fun _ => by exact y_move (.plain rfl)) rfl ?_
        refine st_p (fun _ => by exact y_move (.plain rfl)) rfl ?_
        refine aops_call (blt_lt rfl) (.plain rfl) (.cons (.plain rfl) (.cons (.plain rfl) .nil)) (ACalls.here (remove_c l u (by omega)) ?_)
        refine st_p (fun _ => by exact y_move (.plain rfl)) rfl ?_
        refine aops_call (blt_lt rfl) (.plain rfl) (.cons (.plain rfl) (.cons (.plain rfl) .nil)) (ACalls.here (remove_c (remove l u) t (by have := remove_len l u; omega)) ?_)
        refine st_p (fun _ => by exact y_assign (.plain rfl)) rfl ?_
        refine st_p (fun _ => by exact y_assign (.plain rfl)) rfl ?_
        refine aops_nil ?_
        refine awp_seq ?_
        have hr2 : (remove (remove l t) t).length ≤ 1000000 := by rw [remove_idem]; exact hr
        have hr3 : (remove (remove l t) u).length ≤ 1000000 := by have := remove_len (remove l t) u; omega
        refine awp_region ?_
        refine st_p (fun _ => by exact y_move (.plain rfl)) rfl ?_
        refine st_p (fun _ => by exact y_not (.plain rfl)) rfl ?_
        refine st_p (fun _ => by exact y_move (.plain rfl)) rfl ?_
        refine st_g rfl rfl rfl (by first | exact Says.bool _ _ | exact Says.opt _ _ _) (fun hc _ => by exact y_move (.plain rfl)) rfl ?_
        refine st_g rfl rfl rfl (by first | exact Says.bool _ _ | exact Says.opt _ _ _) (fun hc _ => by exact y_move (.plain rfl)) rfl ?_
        first | refine st_g rfl rfl rfl (by first | exact Says.bool _ _ | exact Says.opt _ _ _) (fun hc _ => by exact y_len (.opt rfl hc)) rfl ?_ | refine st_g rfl rfl rfl (by first | exact Says.bool _ _ | exact Says.opt _ _ _) (fun hc _ => by exact y_lenArr (.opt rfl hc)) rfl ?_
        first | refine st_g rfl rfl rfl (by first | exact Says.bool _ _ | exact Says.opt _ _ _) (fun hc _ => by exact y_eql (.opt rfl hc) (.opt rfl hc)) rfl ?_ | refine st_g rfl rfl rfl (by first | exact Says.bool _ _ | exact Says.opt _ _ _) (fun hc _ => by exact y_eqBool (by rfl) (.opt rfl hc) (.opt rfl hc)) rfl ?_ | refine st_g rfl rfl rfl (by first | exact Says.bool _ _ | exact Says.opt _ _ _) (fun hc _ => by exact y_eqStruct (.opt rfl hc) (.opt rfl hc) .nil) rfl ?_
        refine st_p (fun _ => by exact y_and (.plain rfl) rfl rfl) rfl ?_
        refine st_p (fun _ => by exact y_move (.plain rfl)) rfl ?_
        refine st_g rfl rfl rfl (by first | exact Says.bool _ _ | exact Says.opt _ _ _) (fun hc _ => by exact y_move (.plain rfl)) rfl ?_
        refine st_g rfl rfl rfl (by first | exact Says.bool _ _ | exact Says.opt _ _ _) (fun hc _ => by exact y_move (.plain rfl)) rfl ?_
        refine st_g rfl rfl rfl (by first | exact Says.bool _ _ | exact Says.opt _ _ _) (fun hc _ => by exact y_call (.plain rfl) (.cons (.opt rfl hc) (.cons (.opt rfl hc) .nil)) (ACalls.pure (remove_c (remove l t) t hr))) rfl ?_
        refine st_g rfl rfl rfl (by first | exact Says.bool _ _ | exact Says.opt _ _ _) (fun hc _ => by exact y_move (.plain rfl)) rfl ?_
        refine st_g rfl rfl rfl (by first | exact Says.bool _ _ | exact Says.opt _ _ _) (fun hc _ => by exact y_call (.plain rfl) (.cons (.opt rfl hc) (.cons (.opt rfl hc) .nil)) (ACalls.pure (equal_c _ _ hr2))) rfl ?_
        refine st_p (fun _ => by exact y_and (.plain rfl) rfl rfl) rfl ?_
        refine st_p (fun _ => by exact y_move (.plain rfl)) rfl ?_
        refine st_g rfl rfl rfl (by first | exact Says.bool _ _ | exact Says.opt _ _ _) (fun hc _ => by exact y_move (.plain rfl)) rfl ?_
        refine st_g rfl rfl rfl (by first | exact Says.bool _ _ | exact Says.opt _ _ _) (fun hc _ => by exact y_move (.plain rfl)) rfl ?_
        refine st_g rfl rfl rfl (by first | exact Says.bool _ _ | exact Says.opt _ _ _) (fun hc _ => by exact y_call (.plain rfl) (.cons (.opt rfl hc) (.cons (.opt rfl hc) .nil)) (ACalls.pure (equal_c _ _ hr3))) rfl ?_
        refine st_p (fun _ => by exact y_and (.plain rfl) rfl rfl) rfl ?_
        refine st_p (fun _ => by exact y_move (.plain rfl)) rfl ?_
        refine st_g rfl rfl rfl (by first | exact Says.bool _ _ | exact Says.opt _ _ _) (fun hc _ => by exact y_call (.plain rfl) .nil (ACalls.pure awake_c)) rfl ?_
        refine st_p (fun _ => by exact y_and (.plain rfl) rfl rfl) rfl ?_
        refine st_p (fun _ => by exact y_assign (.plain rfl)) rfl ?_
        refine aops_nil ?_
        refine awp_ret ?_
        refine ret1 (.inr rfl) rfl ?_
        exact ⟨congrArg AV.bool (by obtain rfl : k = l.length := (by omega); simp [findB_remove, remove_idem, remove_comm l t u]), rfl⟩

set_option maxRecDepth 100000 in
theorem waitlistRemoval_lifted (os : Os) (started : os.Started) (H : Type) (enc : TypeId × Value → H) :
    ReturnsInHanded {} Try.checked os 5 .any (Ytapmdkfhppbblaa.Rows.waitlistRemovalSpec.pre6 enc Try.prog Try.f5 Ytapmdkfhppbblaa.Rows.waitlistRemovalRow.domain false) (Ytapmdkfhppbblaa.Rows.waitlistRemovalSpec.post enc Try.prog Try.f5 false true false false) := by
  refine returnsInHanded_of_change (C := Try.checked) (s := Ytapmdkfhppbblaa.Rows.waitlistRemovalSpec) ownK started (by kernel_rfl) Try.func5
    (ChangeSpec.witness6 (C := Try.checked) (s := Ytapmdkfhppbblaa.Rows.waitlistRemovalSpec) false ⟨#[], #[.slice none 0 0, .int .i64 0, .int .i64 0], []⟩ 8 (by kernel_rfl) (by kernel_rfl) (by kernel_rfl) (by kernel_rfl) (by kernel_rfl)) ?_
  intro W base args ds gs before hval hW _ _
  refine law_row (TB := 4) (by rw [Try.params5]) ((.scalar rdL (by kernel_rfl) (.scalar rdI (by kernel_rfl) (.scalar rdI (by kernel_rfl) .nil)))) (fun a h => removalLaw_c a.1 a.2.1 a.2.2.1) laidK (by kernel_rfl) rfl Try.underlying4 rfl (fun ds' h => ?_) hval hW
  rw [Try.params5] at h
  match ds', h with
  | [d0, d1, d2], _ => rfl
namespace Ytapmdkfhppbblaa
theorem waitlistRemoval_holds : Rows.WaitlistRemovalSaid :=
  OpenClaim.holds_of_wide 5 Try.f5 rfl rfl rfl rfl rfl rfl rfl ⟨rfl, rfl, rfl, rfl, rfl⟩ rfl rfl rfl rfl rfl (by kernel_rfl) Try.func5 (by kernel_rfl)
    (of_decide_eq_true (by kernel_rfl)) (by unfold Func.isWrapper; first | (rw [if_pos (by decide +kernel)]; kernel_rfl) | (rw [if_neg (by decide +kernel)]; exact ⟨rfl, rfl⟩))
    (fun os started H enc _ => waitlistRemoval_lifted os started H enc)
end Ytapmdkfhppbblaa

end Go.Proofs
