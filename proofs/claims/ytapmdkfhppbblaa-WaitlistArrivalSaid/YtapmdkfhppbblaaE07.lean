/- The contracts of the searches, of the small functions that are handed to them, and of what the laws ask beside. -/
import Derived.Test.YtapmdkfhppbblaaD07
set_option linter.unusedVariables false
set_option linter.unusedSimpArgs false
namespace Go.Proofs
open Go.Aw Wl
theorem indexFunc_c (l : List W) (hl : l.length ≤ 1000000) (f : Nat) (caps : List AV) (q : W → Bool) (st : List Aw.Item) (h : ∀ w ∈ l, ACalls Try.prog f ([avW w] ++ caps) st (fun v st' => v = .bool (q w) ∧ st' = st)) : ACalls Try.prog 49 [slW l, .clo f caps] st (fun v st' => v = .int (ix l q) ∧ st' = st) := by
  refine acalls_body Try.func49 (by kernel_rfl) rfl Try.ntmps49 (Nat.le_of_ble_eq_true rfl) ?_
  rw [Try.results49]
  refine awp_seq ?_
  refine awp_region ?_
  refine st_p (fun _ => by exact y_assign (.plain rfl)) rfl ?_
  refine aops_nil ?_
  refine awp_seq ?_
  refine awp_seq ?_
  refine awp_region ?_
  refine st_p (fun _ => by exact y_move (.plain rfl)) rfl ?_
  first | refine st_p (fun _ => by exact y_len (.plain rfl)) rfl ?_ | refine st_p (fun _ => by exact y_lenArr (.plain rfl)) rfl ?_
  refine st_p (fun _ => by exact y_move (.plain rfl)) rfl ?_
  refine aops_nil ?_
  refine awp_block ?_
  refine awp_loop (X := Nat) (fun x => [(0, slW l), (1, .clo f caps), (7, .int ((l.map encW).length : Int)), (8, .int (x : Int))]) (fun x => st) (fun x => x ≤ l.length ∧ ∀ i (h : i < l.length), i < x → q l[i] = false) (fun x => l.length - x) 0 ⟨Nat.zero_le _, by omega⟩ ?_ ?_
  · exact Weak.of (by (repeat (first | exact .nil _ | refine .cons rfl (by first | exact AV.Imp.refl _ | exact AV.Imp.grow_sl | exact AV.Imp.full_sl | exact AV.Imp.own_sl | exact AV.Imp.nil_sl | exact AV.Imp.nil_full | exact AV.Imp.nil_grow | exact AV.Imp.full_grow | exact AV.Imp.own_grow | exact AV.Imp.of_eq (congrArg AV.int (by omega)) | exact AV.Imp.of_eq (by simp; try omega)) ?_)); done) (ItLe.refl _)
  · rintro k ⟨hk, hno⟩
    refine awp_seq ?_
    refine awp_region ?_
    refine st_p (fun _ => by exact y_lss (.plain rfl) (.plain rfl)) rfl ?_
    refine aops_nil ?_
    refine awp_seq ?_
    refine awp_cond rfl (fun h1 => ?_) (fun h1 => ?_)
    · skip
      try simp only [decide_eq_true_eq, decide_eq_false_iff_not, Bool.not_eq_true', Bool.not_eq_false', Bool.not_eq_true, Bool.not_eq_false, List.length_map, Int.ofNat_lt, Int.ofNat_le, Bool.or_eq_true, Bool.and_eq_true, Bool.or_eq_false_iff, Bool.and_eq_false_iff] at h1
      refine awp_skip ?_
      refine awp_seq ?_
      refine awp_block ?_
      refine awp_seq ?_
      refine awp_region ?_
      refine st_p (fun _ => by exact y_move (.plain rfl)) rfl ?_
      refine st_p (fun _ => by exact y_assign (.plain rfl)) rfl ?_
      refine aops_nil ?_
      refine awp_seq ?_
      refine awp_region ?_
      refine st_p (fun _ => by exact y_move (.plain rfl)) rfl ?_
      refine st_p (fun _ => by exact y_move (.plain rfl)) rfl ?_
      refine st_p (fun _ => by exact y_move (.plain rfl)) rfl ?_
      first | refine st_p (fun _ => by exact y_indexMap (.plain rfl) (.plain rfl) rfl (by refine ⟨?_, ?_⟩; (first | omega | (simp; omega) | (simp at hc; omega) | (simp at hc ⊢; omega) | (simp; done)); rfl)) rfl ?_ | refine st_p (fun _ => by exact y_indexT (.plain rfl) (.plain rfl) (by first | omega | (simp; omega) | (simp at hc; omega) | (simp at hc ⊢; omega) | (simp; done)) (by first | omega | (simp; omega) | (simp at hc; omega) | (simp at hc ⊢; omega) | (simp; done))) rfl ?_ | refine st_p (fun _ => by exact y_index (.plain rfl) (.plain rfl) (by omega) rfl) rfl ?_ | refine st_p (fun _ => by exact y_indexArr (.plain rfl) (.plain rfl) rfl (by first | omega | (simp; omega) | (simp at hc; omega) | (simp at hc ⊢; omega) | (simp; done))) rfl ?_ | refine st_p (fun _ => by exact y_indexVar (.plain rfl) (.plain rfl) rfl (by first | omega | (simp; omega) | (simp at hc; omega) | (simp at hc ⊢; omega) | (simp; done))) rfl ?_
      first | refine st_p (fun _ => by exact y_loadE (.plain rfl) rfl) rfl ?_ | refine st_p (fun _ => by exact y_loadEW (.plain rfl) (by rfl)) rfl ?_ | refine st_p (fun _ => by exact y_loadEAgg (.plain rfl) (Nat.le_of_ble_eq_true rfl)) rfl ?_ | refine st_p (fun _ => by exact y_load (.plain rfl) (by first | exact .here | exact .there .here | exact .there (.there .here) | exact .there (.there (.there .here)) | exact .there (.there (.there (.there .here))) | exact .there (.there (.there (.there (.there .here)))) | exact .there (.there (.there (.there (.there (.there .here)))))) rfl) rfl ?_ | refine st_p (fun _ => by exact y_loadW (.plain rfl) (by first | exact .here | exact .there .here | exact .there (.there .here) | exact .there (.there (.there .here)) | exact .there (.there (.there (.there .here))) | exact .there (.there (.there (.there (.there .here)))) | exact .there (.there (.there (.there (.there (.there .here)))))) (by rfl)) rfl ?_ | refine st_p (fun _ => by exact y_loadAgg (.plain rfl) (by first | exact .here | exact .there .here | exact .there (.there .here) | exact .there (.there (.there .here)) | exact .there (.there (.there (.there .here))) | exact .there (.there (.there (.there (.there .here)))) | exact .there (.there (.there (.there (.there (.there .here)))))) (Nat.le_of_ble_eq_true rfl)) rfl ?_
      refine aops_call (blt_lt rfl) (.plain rfl) (.cons (.plain rfl) .nil) ((h l[k] (List.getElem_mem h1)).mono ?_)
      rintro v st2 ⟨rfl, e⟩
      rw [e]
      refine aops_nil ?_
      refine awp_cond rfl (fun h2 => ?_) (fun h2 => ?_)
      · skip
        try simp only [decide_eq_true_eq, decide_eq_false_iff_not, Bool.not_eq_true', Bool.not_eq_false', Bool.not_eq_true, Bool.not_eq_false, List.length_map, Int.ofNat_lt, Int.ofNat_le, Bool.or_eq_true, Bool.and_eq_true, Bool.or_eq_false_iff, Bool.and_eq_false_iff] at h2
        refine awp_seq ?_
        refine awp_region ?_
        refine st_p (fun _ => by exact y_move (.plain rfl)) rfl ?_
        refine st_p (fun _ => by exact y_assign (.plain rfl)) rfl ?_
        refine aops_nil ?_
        refine awp_ret ?_
        exact retG (.inr rfl) (.cons (.tmp rfl) .nil) VShift.refl ⟨congrArg AV.int (ix_at l q k h1 h2 hno).symm, rfl⟩
      · skip
        try simp only [decide_eq_true_eq, decide_eq_false_iff_not, Bool.not_eq_true', Bool.not_eq_false', Bool.not_eq_true, Bool.not_eq_false, List.length_map, Int.ofNat_lt, Int.ofNat_le, Bool.or_eq_true, Bool.and_eq_true, Bool.or_eq_false_iff, Bool.and_eq_false_iff] at h2
        refine awp_skip ?_
        refine awp_region ?_
        refine st_p (fun _ => by exact y_add (.plain rfl) (.plain rfl) (by first | omega | (simp; omega) | (simp at hc; omega) | (simp at hc ⊢; omega) | (simp; done))) rfl ?_
        refine st_p (fun _ => by exact y_move (.plain rfl)) rfl ?_
        refine aops_nil ?_
        exact ⟨k + 1, ⟨by omega, fun i hi hik => (by by_cases e : i = k; (subst e; exact h2); exact hno i hi (by omega))⟩, by omega, Weak.of (by (repeat (first | exact .nil _ | refine .cons rfl (by first | exact AV.Imp.refl _ | exact AV.Imp.grow_sl | exact AV.Imp.full_sl | exact AV.Imp.own_sl | exact AV.Imp.nil_sl | exact AV.Imp.nil_full | exact AV.Imp.nil_grow | exact AV.Imp.full_grow | exact AV.Imp.own_grow | exact AV.Imp.of_eq (congrArg AV.int (by omega)) | exact AV.Imp.of_eq (by simp; try omega)) ?_)); done) (ItLe.refl _)⟩
    · skip
      try simp only [decide_eq_true_eq, decide_eq_false_iff_not, Bool.not_eq_true', Bool.not_eq_false', Bool.not_eq_true, Bool.not_eq_false, List.length_map, Int.ofNat_lt, Int.ofNat_le, Bool.or_eq_true, Bool.and_eq_true, Bool.or_eq_false_iff, Bool.and_eq_false_iff] at h1
      refine awp_exit ?_
      refine awp_seq ?_
      refine awp_region ?_
      refine st_p (fun _ => by exact y_assign (.plain rfl)) rfl ?_
      refine aops_nil ?_
      refine awp_ret ?_
      exact retG (.inr rfl) (.cons (.tmp rfl) .nil) VShift.refl ⟨congrArg AV.int (ix_no l q (fun i hi => hno i hi (by omega))).symm, rfl⟩

theorem containsFunc_c (l : List W) (hl : l.length ≤ 1000000) (f : Nat) (caps : List AV) (q : W → Bool) (st : List Aw.Item) (h : ∀ w ∈ l, ACalls Try.prog f ([avW w] ++ caps) st (fun v st' => v = .bool (q w) ∧ st' = st)) : ACalls Try.prog 29 [slW l, .clo f caps] st (fun v st' => v = .bool (l.any q) ∧ st' = st) := by
  refine acalls_body Try.func29 (by kernel_rfl) rfl Try.ntmps29 (Nat.le_of_ble_eq_true rfl) ?_
  rw [Try.results29]
  refine awp_seq ?_
  refine awp_region ?_
  refine st_p (fun _ => by exact y_assign (.plain rfl)) rfl ?_
  refine aops_nil ?_
  refine awp_seq ?_
  refine awp_region ?_
  refine st_p (fun _ => by exact y_move (.plain rfl)) rfl ?_
  refine st_p (fun _ => by exact y_move (.plain rfl)) rfl ?_
  refine aops_call (blt_lt rfl) (.plain rfl) (.cons (.plain rfl) (.cons (.plain rfl) .nil)) (ACalls.then (indexFunc_c l hl f caps q st h) ?_)
  refine st_p (fun _ => by exact y_geq (.plain rfl) (.plain rfl)) rfl ?_
  refine st_p (fun _ => by exact y_assign (.plain rfl)) rfl ?_
  refine aops_nil ?_
  refine awp_ret ?_
  exact retG (.inr rfl) (.cons (.tmp rfl) .nil) VShift.refl ⟨congrArg AV.bool (ix_any l q), rfl⟩

theorem indexI_c (l : List Int) (hl : l.length ≤ 1000000) (t : Int) : ACalls Try.prog 50 [slI l, .int t] [] (fun v st => v = .int (ix l (fun n => decide (t = n))) ∧ st = []) := by
  refine acalls_body Try.func50 (by kernel_rfl) rfl Try.ntmps50 (Nat.le_of_ble_eq_true rfl) ?_
  rw [Try.results50]
  refine awp_seq ?_
  refine awp_region ?_
  refine st_p (fun _ => by exact y_assign (.plain rfl)) rfl ?_
  refine aops_nil ?_
  refine awp_seq ?_
  refine awp_seq ?_
  refine awp_region ?_
  refine st_p (fun _ => by exact y_move (.plain rfl)) rfl ?_
  first | refine st_p (fun _ => by exact y_len (.plain rfl)) rfl ?_ | refine st_p (fun _ => by exact y_lenArr (.plain rfl)) rfl ?_
  refine st_p (fun _ => by exact y_move (.plain rfl)) rfl ?_
  refine aops_nil ?_
  refine awp_block ?_
  refine awp_loop (X := Nat) (fun x => [(0, slI l), (1, .int t), (7, .int ((l.map fun n => [AV.int n]).length : Int)), (8, .int (x : Int))]) (fun x => []) (fun x => x ≤ l.length ∧ ∀ i (h : i < l.length), i < x → decide (t = l[i]) = false) (fun x => l.length - x) 0 ⟨Nat.zero_le _, by omega⟩ ?_ ?_
  · exact Weak.of (by (repeat (first | exact .nil _ | refine .cons rfl (by first | exact AV.Imp.refl _ | exact AV.Imp.grow_sl | exact AV.Imp.full_sl | exact AV.Imp.own_sl | exact AV.Imp.nil_sl | exact AV.Imp.nil_full | exact AV.Imp.nil_grow | exact AV.Imp.full_grow | exact AV.Imp.own_grow | exact AV.Imp.of_eq (congrArg AV.int (by omega)) | exact AV.Imp.of_eq (by simp; try omega)) ?_)); done) (by (repeat (first | exact .nil _ | refine .cons (by first | exact .here | exact .there .here | exact .there (.there .here) | exact .there (.there (.there .here)) | exact .there (.there (.there (.there .here))) | exact .there (.there (.there (.there (.there .here)))) | exact .there (.there (.there (.there (.there (.there .here)))))) ?_)); done)
  · rintro k ⟨hk, hno⟩
    refine awp_seq ?_
    refine awp_region ?_
    refine st_p (fun _ => by exact y_lss (.plain rfl) (.plain rfl)) rfl ?_
    refine aops_nil ?_
    refine awp_seq ?_
    refine awp_cond rfl (fun h1 => ?_) (fun h1 => ?_)
    · skip
      try simp only [decide_eq_true_eq, decide_eq_false_iff_not, Bool.not_eq_true', Bool.not_eq_false', Bool.not_eq_true, Bool.not_eq_false, List.length_map, Int.ofNat_lt, Int.ofNat_le, Bool.or_eq_true, Bool.and_eq_true, Bool.or_eq_false_iff, Bool.and_eq_false_iff] at h1
      refine awp_skip ?_
      refine awp_seq ?_
      refine awp_block ?_
      refine awp_seq ?_
      refine awp_region ?_
      refine st_p (fun _ => by exact y_move (.plain rfl)) rfl ?_
      refine st_p (fun _ => by exact y_assign (.plain rfl)) rfl ?_
      refine aops_nil ?_
      refine awp_seq ?_
      refine awp_region ?_
      refine st_p (fun _ => by exact y_move (.plain rfl)) rfl ?_
      refine st_p (fun _ => by exact y_move (.plain rfl)) rfl ?_
      refine st_p (fun _ => by exact y_move (.plain rfl)) rfl ?_
      first | refine st_p (fun _ => by exact y_indexMap (.plain rfl) (.plain rfl) rfl (by refine ⟨?_, ?_⟩; (first | omega | (simp; omega) | (simp at hc; omega) | (simp at hc ⊢; omega) | (simp; done)); rfl)) rfl ?_ | refine st_p (fun _ => by exact y_indexT (.plain rfl) (.plain rfl) (by first | omega | (simp; omega) | (simp at hc; omega) | (simp at hc ⊢; omega) | (simp; done)) (by first | omega | (simp; omega) | (simp at hc; omega) | (simp at hc ⊢; omega) | (simp; done))) rfl ?_ | refine st_p (fun _ => by exact y_index (.plain rfl) (.plain rfl) (by omega) rfl) rfl ?_ | refine st_p (fun _ => by exact y_indexArr (.plain rfl) (.plain rfl) rfl (by first | omega | (simp; omega) | (simp at hc; omega) | (simp at hc ⊢; omega) | (simp; done))) rfl ?_ | refine st_p (fun _ => by exact y_indexVar (.plain rfl) (.plain rfl) rfl (by first | omega | (simp; omega) | (simp at hc; omega) | (simp at hc ⊢; omega) | (simp; done))) rfl ?_
      first | refine st_p (fun _ => by exact y_loadE (.plain rfl) rfl) rfl ?_ | refine st_p (fun _ => by exact y_loadEW (.plain rfl) (by rfl)) rfl ?_ | refine st_p (fun _ => by exact y_loadEAgg (.plain rfl) (Nat.le_of_ble_eq_true rfl)) rfl ?_ | refine st_p (fun _ => by exact y_load (.plain rfl) (by first | exact .here | exact .there .here | exact .there (.there .here) | exact .there (.there (.there .here)) | exact .there (.there (.there (.there .here))) | exact .there (.there (.there (.there (.there .here)))) | exact .there (.there (.there (.there (.there (.there .here)))))) rfl) rfl ?_ | refine st_p (fun _ => by exact y_loadW (.plain rfl) (by first | exact .here | exact .there .here | exact .there (.there .here) | exact .there (.there (.there .here)) | exact .there (.there (.there (.there .here))) | exact .there (.there (.there (.there (.there .here)))) | exact .there (.there (.there (.there (.there (.there .here)))))) (by rfl)) rfl ?_ | refine st_p (fun _ => by exact y_loadAgg (.plain rfl) (by first | exact .here | exact .there .here | exact .there (.there .here) | exact .there (.there (.there .here)) | exact .there (.there (.there (.there .here))) | exact .there (.there (.there (.there (.there .here)))) | exact .there (.there (.there (.there (.there (.there .here)))))) (Nat.le_of_ble_eq_true rfl)) rfl ?_
      first | refine st_p (fun _ => by exact y_eql (.plain rfl) (.plain rfl)) rfl ?_ | refine st_p (fun _ => by exact y_eqBool (by rfl) (.plain rfl) (.plain rfl)) rfl ?_ | refine st_p (fun _ => by exact y_eqStruct (.plain rfl) (.plain rfl) .nil) rfl ?_
      refine aops_nil ?_
      refine awp_cond rfl (fun h2 => ?_) (fun h2 => ?_)
      · skip
        try simp only [decide_eq_true_eq, decide_eq_false_iff_not, Bool.not_eq_true', Bool.not_eq_false', Bool.not_eq_true, Bool.not_eq_false, List.length_map, Int.ofNat_lt, Int.ofNat_le, Bool.or_eq_true, Bool.and_eq_true, Bool.or_eq_false_iff, Bool.and_eq_false_iff] at h2
        refine awp_seq ?_
        refine awp_region ?_
        refine st_p (fun _ => by exact y_move (.plain rfl)) rfl ?_
        refine st_p (fun _ => by exact y_assign (.plain rfl)) rfl ?_
        refine aops_nil ?_
        refine awp_ret ?_
        refine ret1 (.inr rfl) rfl ?_
        exact ⟨congrArg AV.int (ix_at l _ k h1 (decide_eq_true h2) hno).symm, rfl⟩
      · skip
        try simp only [decide_eq_true_eq, decide_eq_false_iff_not, Bool.not_eq_true', Bool.not_eq_false', Bool.not_eq_true, Bool.not_eq_false, List.length_map, Int.ofNat_lt, Int.ofNat_le, Bool.or_eq_true, Bool.and_eq_true, Bool.or_eq_false_iff, Bool.and_eq_false_iff] at h2
        refine awp_skip ?_
        refine awp_region ?_
        refine st_p (fun _ => by exact y_add (.plain rfl) (.plain rfl) (by first | omega | (simp; omega) | (simp at hc; omega) | (simp at hc ⊢; omega) | (simp; done))) rfl ?_
        refine st_p (fun _ => by exact y_move (.plain rfl)) rfl ?_
        refine aops_nil ?_
        exact ⟨k + 1, ⟨by omega, fun i hi hik => (by by_cases e : i = k; (subst e; exact decide_eq_false h2); exact hno i hi (by omega))⟩, by omega, Weak.of (by (repeat (first | exact .nil _ | refine .cons rfl (by first | exact AV.Imp.refl _ | exact AV.Imp.grow_sl | exact AV.Imp.full_sl | exact AV.Imp.own_sl | exact AV.Imp.nil_sl | exact AV.Imp.nil_full | exact AV.Imp.nil_grow | exact AV.Imp.full_grow | exact AV.Imp.own_grow | exact AV.Imp.of_eq (congrArg AV.int (by omega)) | exact AV.Imp.of_eq (by simp; try omega)) ?_)); done) (by (repeat (first | exact .nil _ | refine .cons (by first | exact .here | exact .there .here | exact .there (.there .here) | exact .there (.there (.there .here)) | exact .there (.there (.there (.there .here))) | exact .there (.there (.there (.there (.there .here)))) | exact .there (.there (.there (.there (.there (.there .here)))))) ?_)); done)⟩
    · skip
      try simp only [decide_eq_true_eq, decide_eq_false_iff_not, Bool.not_eq_true', Bool.not_eq_false', Bool.not_eq_true, Bool.not_eq_false, List.length_map, Int.ofNat_lt, Int.ofNat_le, Bool.or_eq_true, Bool.and_eq_true, Bool.or_eq_false_iff, Bool.and_eq_false_iff] at h1
      refine awp_exit ?_
      refine awp_seq ?_
      refine awp_region ?_
      refine st_p (fun _ => by exact y_assign (.plain rfl)) rfl ?_
      refine aops_nil ?_
      refine awp_ret ?_
      refine ret1 (.inr rfl) rfl ?_
      exact ⟨congrArg AV.int (ix_no l _ (fun i hi => hno i hi (by omega))).symm, rfl⟩

theorem containsI_c (l : List Int) (hl : l.length ≤ 1000000) (t : Int) : ACalls Try.prog 32 [slI l, .int t] [] (fun v st => v = .bool (l.any (fun n => decide (t = n))) ∧ st = []) := by
  refine acalls_body Try.func32 (by kernel_rfl) rfl Try.ntmps32 (Nat.le_of_ble_eq_true rfl) ?_
  rw [Try.results32]
  refine awp_seq ?_
  refine awp_region ?_
  refine st_p (fun _ => by exact y_assign (.plain rfl)) rfl ?_
  refine aops_nil ?_
  refine awp_seq ?_
  refine awp_region ?_
  refine st_p (fun _ => by exact y_move (.plain rfl)) rfl ?_
  refine st_p (fun _ => by exact y_move (.plain rfl)) rfl ?_
  refine aops_call (blt_lt rfl) (.plain rfl) (.cons (.plain rfl) (.cons (.plain rfl) .nil)) (ACalls.here (indexI_c l hl t) ?_)
  refine st_p (fun _ => by exact y_geq (.plain rfl) (.plain rfl)) rfl ?_
  refine st_p (fun _ => by exact y_assign (.plain rfl)) rfl ?_
  refine aops_nil ?_
  refine awp_ret ?_
  refine ret1 (.inr rfl) rfl ?_
  exact ⟨congrArg AV.bool (ix_any l _), rfl⟩

theorem isTask_c (t : Int) (i : Nat) (w : W) : ACalls Try.prog 30 [avW w, .ptr i 0] [.cells i [.int t]] (fun v st => v = .bool (decide (w.task = t)) ∧ st = [.cells i [.int t]]) := by
  refine acalls_body Try.func30 (by kernel_rfl) rfl Try.ntmps30 (Nat.le_of_ble_eq_true rfl) ?_
  rw [Try.results30]
  refine awp_seq ?_
  refine awp_region ?_
  refine st_n (fun _ => by exact y_box (.plain rfl)) rfl fun n1 => ?_
  refine st_p (fun _ => by exact y_assign (.plain rfl)) rfl ?_
  refine aops_nil ?_
  refine awp_seq ?_
  refine awp_region ?_
  first | refine st_p (fun _ => by exact y_fieldPtr (.plain rfl)) rfl ?_ | refine st_p (fun _ => by exact y_fieldE (.plain rfl) (Nat.le_of_ble_eq_true rfl)) rfl ?_
  first | refine st_p (fun _ => by exact y_loadE (.plain rfl) rfl) rfl ?_ | refine st_p (fun _ => by exact y_loadEW (.plain rfl) (by rfl)) rfl ?_ | refine st_p (fun _ => by exact y_loadEAgg (.plain rfl) (Nat.le_of_ble_eq_true rfl)) rfl ?_ | refine st_p (fun _ => by exact y_load (.plain rfl) (by first | exact .here | exact .there .here | exact .there (.there .here) | exact .there (.there (.there .here)) | exact .there (.there (.there (.there .here))) | exact .there (.there (.there (.there (.there .here)))) | exact .there (.there (.there (.there (.there (.there .here)))))) rfl) rfl ?_ | refine st_p (fun _ => by exact y_loadW (.plain rfl) (by first | exact .here | exact .there .here | exact .there (.there .here) | exact .there (.there (.there .here)) | exact .there (.there (.there (.there .here))) | exact .there (.there (.there (.there (.there .here)))) | exact .there (.there (.there (.there (.there (.there .here)))))) (by rfl)) rfl ?_ | refine st_p (fun _ => by exact y_loadAgg (.plain rfl) (by first | exact .here | exact .there .here | exact .there (.there .here) | exact .there (.there (.there .here)) | exact .there (.there (.there (.there .here))) | exact .there (.there (.there (.there (.there .here)))) | exact .there (.there (.there (.there (.there (.there .here)))))) (Nat.le_of_ble_eq_true rfl)) rfl ?_
  first | refine st_p (fun _ => by exact y_loadE (.plain rfl) rfl) rfl ?_ | refine st_p (fun _ => by exact y_loadEW (.plain rfl) (by rfl)) rfl ?_ | refine st_p (fun _ => by exact y_loadEAgg (.plain rfl) (Nat.le_of_ble_eq_true rfl)) rfl ?_ | refine st_p (fun _ => by exact y_load (.plain rfl) (by first | exact .here | exact .there .here | exact .there (.there .here) | exact .there (.there (.there .here)) | exact .there (.there (.there (.there .here))) | exact .there (.there (.there (.there (.there .here)))) | exact .there (.there (.there (.there (.there (.there .here)))))) rfl) rfl ?_ | refine st_p (fun _ => by exact y_loadW (.plain rfl) (by first | exact .here | exact .there .here | exact .there (.there .here) | exact .there (.there (.there .here)) | exact .there (.there (.there (.there .here))) | exact .there (.there (.there (.there (.there .here)))) | exact .there (.there (.there (.there (.there (.there .here)))))) (by rfl)) rfl ?_ | refine st_p (fun _ => by exact y_loadAgg (.plain rfl) (by first | exact .here | exact .there .here | exact .there (.there .here) | exact .there (.there (.there .here)) | exact .there (.there (.there (.there .here))) | exact .there (.there (.there (.there (.there .here)))) | exact .there (.there (.there (.there (.there (.there .here)))))) (Nat.le_of_ble_eq_true rfl)) rfl ?_
  first | refine st_p (fun _ => by exact y_eql (.plain rfl) (.plain rfl)) rfl ?_ | refine st_p (fun _ => by exact y_eqBool (by rfl) (.plain rfl) (.plain rfl)) rfl ?_ | refine st_p (fun _ => by exact y_eqStruct (.plain rfl) (.plain rfl) .nil) rfl ?_
  refine st_p (fun _ => by exact y_assign (.plain rfl)) rfl ?_
  refine aops_nil ?_
  refine awp_ret ?_
  exact retG (.inr rfl) (.cons (.tmp rfl) .nil) (VShift.sub (AV.Imp.refl _) (List.sublist_cons_self _ _)) ⟨rfl, rfl⟩

theorem noTask_c (l : List Int) (hl : l.length ≤ 1000000) (i : Nat) (w : W) : ACalls Try.prog 31 [avW w, .ptr i 0] [.cells i [slI l]] (fun v st => v = .bool (!(l.any (fun n => decide (w.task = n)))) ∧ st = [.cells i [slI l]]) := by
  refine acalls_body Try.func31 (by kernel_rfl) rfl Try.ntmps31 (Nat.le_of_ble_eq_true rfl) ?_
  rw [Try.results31]
  refine awp_seq ?_
  refine awp_region ?_
  refine st_n (fun _ => by exact y_box (.plain rfl)) rfl fun n1 => ?_
  refine st_p (fun _ => by exact y_assign (.plain rfl)) rfl ?_
  refine aops_nil ?_
  refine awp_seq ?_
  refine awp_region ?_
  first | refine st_p (fun _ => by exact y_loadE (.plain rfl) rfl) rfl ?_ | refine st_p (fun _ => by exact y_loadEW (.plain rfl) (by rfl)) rfl ?_ | refine st_p (fun _ => by exact y_loadEAgg (.plain rfl) (Nat.le_of_ble_eq_true rfl)) rfl ?_ | refine st_p (fun _ => by exact y_load (.plain rfl) (by first | exact .here | exact .there .here | exact .there (.there .here) | exact .there (.there (.there .here)) | exact .there (.there (.there (.there .here))) | exact .there (.there (.there (.there (.there .here)))) | exact .there (.there (.there (.there (.there (.there .here)))))) rfl) rfl ?_ | refine st_p (fun _ => by exact y_loadW (.plain rfl) (by first | exact .here | exact .there .here | exact .there (.there .here) | exact .there (.there (.there .here)) | exact .there (.there (.there (.there .here))) | exact .there (.there (.there (.there (.there .here)))) | exact .there (.there (.there (.there (.there (.there .here)))))) (by rfl)) rfl ?_ | refine st_p (fun _ => by exact y_loadAgg (.plain rfl) (by first | exact .here | exact .there .here | exact .there (.there .here) | exact .there (.there (.there .here)) | exact .there (.there (.there (.there .here))) | exact .there (.there (.there (.there (.there .here)))) | exact .there (.there (.there (.there (.there (.there .here)))))) (Nat.le_of_ble_eq_true rfl)) rfl ?_
  first | refine st_p (fun _ => by exact y_fieldPtr (.plain rfl)) rfl ?_ | refine st_p (fun _ => by exact y_fieldE (.plain rfl) (Nat.le_of_ble_eq_true rfl)) rfl ?_
  first | refine st_p (fun _ => by exact y_loadE (.plain rfl) rfl) rfl ?_ | refine st_p (fun _ => by exact y_loadEW (.plain rfl) (by rfl)) rfl ?_ | refine st_p (fun _ => by exact y_loadEAgg (.plain rfl) (Nat.le_of_ble_eq_true rfl)) rfl ?_ | refine st_p (fun _ => by exact y_load (.plain rfl) (by first | exact .here | exact .there .here | exact .there (.there .here) | exact .there (.there (.there .here)) | exact .there (.there (.there (.there .here))) | exact .there (.there (.there (.there (.there .here)))) | exact .there (.there (.there (.there (.there (.there .here)))))) rfl) rfl ?_ | refine st_p (fun _ => by exact y_loadW (.plain rfl) (by first | exact .here | exact .there .here | exact .there (.there .here) | exact .there (.there (.there .here)) | exact .there (.there (.there (.there .here))) | exact .there (.there (.there (.there (.there .here)))) | exact .there (.there (.there (.there (.there (.there .here)))))) (by rfl)) rfl ?_ | refine st_p (fun _ => by exact y_loadAgg (.plain rfl) (by first | exact .here | exact .there .here | exact .there (.there .here) | exact .there (.there (.there .here)) | exact .there (.there (.there (.there .here))) | exact .there (.there (.there (.there (.there .here)))) | exact .there (.there (.there (.there (.there (.there .here)))))) (Nat.le_of_ble_eq_true rfl)) rfl ?_
  refine aops_call (blt_lt rfl) (.plain rfl) (.cons (.plain rfl) (.cons (.plain rfl) .nil)) (ACalls.here (containsI_c l hl _) ?_)
  refine st_p (fun _ => by exact y_not (.plain rfl)) rfl ?_
  refine st_p (fun _ => by exact y_assign (.plain rfl)) rfl ?_
  refine aops_nil ?_
  refine awp_ret ?_
  exact retG (.inr rfl) (.cons (.tmp rfl) .nil) (VShift.sub (AV.Imp.refl _) (List.sublist_cons_self _ _)) ⟨rfl, rfl⟩

theorem samePrio_c (x : W) (i : Nat) (w : W) : ACalls Try.prog 34 [avW w, .ptr i 0] [.cells i (encW x)] (fun v st => v = .bool (decide (w.prio = x.prio)) ∧ st = [.cells i (encW x)]) := by
  refine acalls_body Try.func34 (by kernel_rfl) rfl Try.ntmps34 (Nat.le_of_ble_eq_true rfl) ?_
  rw [Try.results34]
  refine awp_seq ?_
  refine awp_region ?_
  refine st_n (fun _ => by exact y_box (.plain rfl)) rfl fun n1 => ?_
  refine st_p (fun _ => by exact y_assign (.plain rfl)) rfl ?_
  refine aops_nil ?_
  refine awp_seq ?_
  refine awp_region ?_
  first | refine st_p (fun _ => by exact y_fieldPtr (.plain rfl)) rfl ?_ | refine st_p (fun _ => by exact y_fieldE (.plain rfl) (Nat.le_of_ble_eq_true rfl)) rfl ?_
  first | refine st_p (fun _ => by exact y_loadE (.plain rfl) rfl) rfl ?_ | refine st_p (fun _ => by exact y_loadEW (.plain rfl) (by rfl)) rfl ?_ | refine st_p (fun _ => by exact y_loadEAgg (.plain rfl) (Nat.le_of_ble_eq_true rfl)) rfl ?_ | refine st_p (fun _ => by exact y_load (.plain rfl) (by first | exact .here | exact .there .here | exact .there (.there .here) | exact .there (.there (.there .here)) | exact .there (.there (.there (.there .here))) | exact .there (.there (.there (.there (.there .here)))) | exact .there (.there (.there (.there (.there (.there .here)))))) rfl) rfl ?_ | refine st_p (fun _ => by exact y_loadW (.plain rfl) (by first | exact .here | exact .there .here | exact .there (.there .here) | exact .there (.there (.there .here)) | exact .there (.there (.there (.there .here))) | exact .there (.there (.there (.there (.there .here)))) | exact .there (.there (.there (.there (.there (.there .here)))))) (by rfl)) rfl ?_ | refine st_p (fun _ => by exact y_loadAgg (.plain rfl) (by first | exact .here | exact .there .here | exact .there (.there .here) | exact .there (.there (.there .here)) | exact .there (.there (.there (.there .here))) | exact .there (.there (.there (.there (.there .here)))) | exact .there (.there (.there (.there (.there (.there .here)))))) (Nat.le_of_ble_eq_true rfl)) rfl ?_
  first | refine st_p (fun _ => by exact y_fieldPtr (.plain rfl)) rfl ?_ | refine st_p (fun _ => by exact y_fieldE (.plain rfl) (Nat.le_of_ble_eq_true rfl)) rfl ?_
  first | refine st_p (fun _ => by exact y_loadE (.plain rfl) rfl) rfl ?_ | refine st_p (fun _ => by exact y_loadEW (.plain rfl) (by rfl)) rfl ?_ | refine st_p (fun _ => by exact y_loadEAgg (.plain rfl) (Nat.le_of_ble_eq_true rfl)) rfl ?_ | refine st_p (fun _ => by exact y_load (.plain rfl) (by first | exact .here | exact .there .here | exact .there (.there .here) | exact .there (.there (.there .here)) | exact .there (.there (.there (.there .here))) | exact .there (.there (.there (.there (.there .here)))) | exact .there (.there (.there (.there (.there (.there .here)))))) rfl) rfl ?_ | refine st_p (fun _ => by exact y_loadW (.plain rfl) (by first | exact .here | exact .there .here | exact .there (.there .here) | exact .there (.there (.there .here)) | exact .there (.there (.there (.there .here))) | exact .there (.there (.there (.there (.there .here)))) | exact .there (.there (.there (.there (.there (.there .here)))))) (by rfl)) rfl ?_ | refine st_p (fun _ => by exact y_loadAgg (.plain rfl) (by first | exact .here | exact .there .here | exact .there (.there .here) | exact .there (.there (.there .here)) | exact .there (.there (.there (.there .here))) | exact .there (.there (.there (.there (.there .here)))) | exact .there (.there (.there (.there (.there (.there .here)))))) (Nat.le_of_ble_eq_true rfl)) rfl ?_
  first | refine st_p (fun _ => by exact y_eql (.plain rfl) (.plain rfl)) rfl ?_ | refine st_p (fun _ => by exact y_eqBool (by rfl) (.plain rfl) (.plain rfl)) rfl ?_ | refine st_p (fun _ => by exact y_eqStruct (.plain rfl) (.plain rfl) .nil) rfl ?_
  refine st_p (fun _ => by exact y_assign (.plain rfl)) rfl ?_
  refine aops_nil ?_
  refine awp_ret ?_
  exact retG (.inr rfl) (.cons (.tmp rfl) .nil) (VShift.sub (AV.Imp.refl _) (List.sublist_cons_self _ _)) ⟨rfl, rfl⟩

theorem fits_c (u : Int) (i : Nat) (w : W) : ACalls Try.prog 35 [avW w, .ptr i 0] [.cells i [.int u]] (fun v st => v = .bool (decide (0 ≤ w.value) && decide (w.value ≤ u)) ∧ st = [.cells i [.int u]]) := by
  refine acalls_body Try.func35 (by kernel_rfl) rfl Try.ntmps35 (Nat.le_of_ble_eq_true rfl) ?_
  rw [Try.results35]
  refine awp_seq ?_
  refine awp_region ?_
  refine st_n (fun _ => by exact y_box (.plain rfl)) rfl fun n1 => ?_
  refine st_p (fun _ => by exact y_assign (.plain rfl)) rfl ?_
  refine aops_nil ?_
  refine awp_seq ?_
  refine awp_region ?_
  first | refine st_p (fun _ => by exact y_fieldPtr (.plain rfl)) rfl ?_ | refine st_p (fun _ => by exact y_fieldE (.plain rfl) (Nat.le_of_ble_eq_true rfl)) rfl ?_
  first | refine st_p (fun _ => by exact y_loadE (.plain rfl) rfl) rfl ?_ | refine st_p (fun _ => by exact y_loadEW (.plain rfl) (by rfl)) rfl ?_ | refine st_p (fun _ => by exact y_loadEAgg (.plain rfl) (Nat.le_of_ble_eq_true rfl)) rfl ?_ | refine st_p (fun _ => by exact y_load (.plain rfl) (by first | exact .here | exact .there .here | exact .there (.there .here) | exact .there (.there (.there .here)) | exact .there (.there (.there (.there .here))) | exact .there (.there (.there (.there (.there .here)))) | exact .there (.there (.there (.there (.there (.there .here)))))) rfl) rfl ?_ | refine st_p (fun _ => by exact y_loadW (.plain rfl) (by first | exact .here | exact .there .here | exact .there (.there .here) | exact .there (.there (.there .here)) | exact .there (.there (.there (.there .here))) | exact .there (.there (.there (.there (.there .here)))) | exact .there (.there (.there (.there (.there (.there .here)))))) (by rfl)) rfl ?_ | refine st_p (fun _ => by exact y_loadAgg (.plain rfl) (by first | exact .here | exact .there .here | exact .there (.there .here) | exact .there (.there (.there .here)) | exact .there (.there (.there (.there .here))) | exact .there (.there (.there (.there (.there .here)))) | exact .there (.there (.there (.there (.there (.there .here)))))) (Nat.le_of_ble_eq_true rfl)) rfl ?_
  refine st_p (fun _ => by exact y_geq (.plain rfl) (.plain rfl)) rfl ?_
  refine st_p (fun _ => by exact y_move (.plain rfl)) rfl ?_
  first | refine st_g rfl rfl rfl (by first | exact Says.bool _ _ | exact Says.opt _ _ _) (fun hc _ => by exact y_fieldPtr (.plain rfl)) rfl ?_ | refine st_g rfl rfl rfl (by first | exact Says.bool _ _ | exact Says.opt _ _ _) (fun hc _ => by exact y_fieldE (.plain rfl) (Nat.le_of_ble_eq_true rfl)) rfl ?_
  first | refine st_g rfl rfl rfl (by first | exact Says.bool _ _ | exact Says.opt _ _ _) (fun hc _ => by exact y_loadE (.opt rfl hc) rfl) rfl ?_ | refine st_g rfl rfl rfl (by first | exact Says.bool _ _ | exact Says.opt _ _ _) (fun hc _ => by exact y_loadEW (.opt rfl hc) (by rfl)) rfl ?_ | refine st_g rfl rfl rfl (by first | exact Says.bool _ _ | exact Says.opt _ _ _) (fun hc _ => by exact y_loadEAgg (.opt rfl hc) (Nat.le_of_ble_eq_true rfl)) rfl ?_ | refine st_g rfl rfl rfl (by first | exact Says.bool _ _ | exact Says.opt _ _ _) (fun hc _ => by exact y_load (.opt rfl hc) (by first | exact .here | exact .there .here | exact .there (.there .here) | exact .there (.there (.there .here)) | exact .there (.there (.there (.there .here))) | exact .there (.there (.there (.there (.there .here)))) | exact .there (.there (.there (.there (.there (.there .here)))))) rfl) rfl ?_ | refine st_g rfl rfl rfl (by first | exact Says.bool _ _ | exact Says.opt _ _ _) (fun hc _ => by exact y_loadW (.opt rfl hc) (by first | exact .here | exact .there .here | exact .there (.there .here) | exact .there (.there (.there .here)) | exact .there (.there (.there (.there .here))) | exact .there (.there (.there (.there (.there .here)))) | exact .there (.there (.there (.there (.there (.there .here)))))) (by rfl)) rfl ?_ | refine st_g rfl rfl rfl (by first | exact Says.bool _ _ | exact Says.opt _ _ _) (fun hc _ => by exact y_loadAgg (.opt rfl hc) (by first | exact .here | exact .there .here | exact .there (.there .here) | exact .there (.there (.there .here)) | exact .there (.there (.there (.there .here))) | exact .there (.there (.there (.there (.there .here)))) | exact .there (.there (.there (.there (.there (.there .here)))))) (Nat.le_of_ble_eq_true rfl)) rfl ?_
  first | refine st_g rfl rfl rfl (by first | exact Says.bool _ _ | exact Says.opt _ _ _) (fun hc _ => by exact y_loadE (.plain rfl) rfl) rfl ?_ | refine st_g rfl rfl rfl (by first | exact Says.bool _ _ | exact Says.opt _ _ _) (fun hc _ => by exact y_loadEW (.plain rfl) (by rfl)) rfl ?_ | refine st_g rfl rfl rfl (by first | exact Says.bool _ _ | exact Says.opt _ _ _) (fun hc _ => by exact y_loadEAgg (.plain rfl) (Nat.le_of_ble_eq_true rfl)) rfl ?_ | refine st_g rfl rfl rfl (by first | exact Says.bool _ _ | exact Says.opt _ _ _) (fun hc _ => by exact y_load (.plain rfl) (by first | exact .here | exact .there .here | exact .there (.there .here) | exact .there (.there (.there .here)) | exact .there (.there (.there (.there .here))) | exact .there (.there (.there (.there (.there .here)))) | exact .there (.there (.there (.there (.there (.there .here)))))) rfl) rfl ?_ | refine st_g rfl rfl rfl (by first | exact Says.bool _ _ | exact Says.opt _ _ _) (fun hc _ => by exact y_loadW (.plain rfl) (by first | exact .here | exact .there .here | exact .there (.there .here) | exact .there (.there (.there .here)) | exact .there (.there (.there (.there .here))) | exact .there (.there (.there (.there (.there .here)))) | exact .there (.there (.there (.there (.there (.there .here)))))) (by rfl)) rfl ?_ | refine st_g rfl rfl rfl (by first | exact Says.bool _ _ | exact Says.opt _ _ _) (fun hc _ => by exact y_loadAgg (.plain rfl) (by first | exact .here | exact .there .here | exact .there (.there .here) | exact .there (.there (.there .here)) | exact .there (.there (.there (.there .here))) | exact .there (.there (.there (.there (.there .here)))) | exact .there (.there (.there (.there (.there (.there .here)))))) (Nat.le_of_ble_eq_true rfl)) rfl ?_
  refine st_g rfl rfl rfl (by first | exact Says.bool _ _ | exact Says.opt _ _ _) (fun hc _ => by exact y_leq (.opt rfl hc) (.opt rfl hc)) rfl ?_
  refine st_p (fun _ => by exact y_and (.plain rfl) rfl rfl) rfl ?_
  refine st_p (fun _ => by exact y_assign (.plain rfl)) rfl ?_
  refine aops_nil ?_
  refine awp_ret ?_
  exact retG (.inr rfl) (.cons (.tmp rfl) .nil) (VShift.sub (AV.Imp.refl _) (List.sublist_cons_self _ _)) ⟨rfl, rfl⟩

theorem bad_c (w : W) : ACalls Try.prog 36 [avW w] [] (fun v st => v = .bool (!valid w) ∧ st = []) := by
  refine acalls_body Try.func36 (by kernel_rfl) rfl Try.ntmps36 (Nat.le_of_ble_eq_true rfl) ?_
  rw [Try.results36]
  refine awp_seq ?_
  refine awp_region ?_
  refine st_n (fun _ => by exact y_box (.plain rfl)) rfl fun n1 => ?_
  refine st_p (fun _ => by exact y_assign (.plain rfl)) rfl ?_
  refine aops_nil ?_
  refine awp_seq ?_
  refine awp_region ?_
  first | refine st_p (fun _ => by exact y_loadE (.plain rfl) rfl) rfl ?_ | refine st_p (fun _ => by exact y_loadEW (.plain rfl) (by rfl)) rfl ?_ | refine st_p (fun _ => by exact y_loadEAgg (.plain rfl) (Nat.le_of_ble_eq_true rfl)) rfl ?_ | refine st_p (fun _ => by exact y_load (.plain rfl) (by first | exact .here | exact .there .here | exact .there (.there .here) | exact .there (.there (.there .here)) | exact .there (.there (.there (.there .here))) | exact .there (.there (.there (.there (.there .here)))) | exact .there (.there (.there (.there (.there (.there .here)))))) rfl) rfl ?_ | refine st_p (fun _ => by exact y_loadW (.plain rfl) (by first | exact .here | exact .there .here | exact .there (.there .here) | exact .there (.there (.there .here)) | exact .there (.there (.there (.there .here))) | exact .there (.there (.there (.there (.there .here)))) | exact .there (.there (.there (.there (.there (.there .here)))))) (by rfl)) rfl ?_ | refine st_p (fun _ => by exact y_loadAgg (.plain rfl) (by first | exact .here | exact .there .here | exact .there (.there .here) | exact .there (.there (.there .here)) | exact .there (.there (.there (.there .here))) | exact .there (.there (.there (.there (.there .here)))) | exact .there (.there (.there (.there (.there (.there .here)))))) (Nat.le_of_ble_eq_true rfl)) rfl ?_
  refine aops_call (blt_lt rfl) (.plain rfl) (.cons (.plain rfl) .nil) (ACalls.here (validR_c _) ?_)
  refine st_p (fun _ => by exact y_not (.plain rfl)) rfl ?_
  refine st_p (fun _ => by exact y_assign (.plain rfl)) rfl ?_
  refine aops_nil ?_
  refine awp_ret ?_
  refine ret1 (.inr rfl) rfl ?_
  exact ⟨rfl, rfl⟩

theorem big_c (n : Int) : ACalls Try.prog 47 [.int n] [] (fun v st => v = .bool (big n) ∧ st = []) := by
  refine acalls_body Try.func47 (by kernel_rfl) rfl Try.ntmps47 (Nat.le_of_ble_eq_true rfl) ?_
  rw [Try.results47]
  refine awp_seq ?_
  refine awp_region ?_
  refine st_p (fun _ => by exact y_assign (.plain rfl)) rfl ?_
  refine aops_nil ?_
  refine awp_seq ?_
  refine awp_region ?_
  refine st_p (fun _ => by exact y_move (.plain rfl)) rfl ?_
  refine st_p (fun _ => by exact y_lss (.plain rfl) (.plain rfl)) rfl ?_
  refine st_p (fun _ => by exact y_move (.plain rfl)) rfl ?_
  refine st_g rfl rfl rfl (by first | exact Says.bool _ _ | exact Says.opt _ _ _) (fun hc _ => by exact y_move (.plain rfl)) rfl ?_
  refine st_g rfl rfl rfl (by first | exact Says.bool _ _ | exact Says.opt _ _ _) (fun hc _ => by exact y_gtr (.opt rfl hc) (.plain rfl)) rfl ?_
  refine st_p (fun _ => by exact y_or (.plain rfl) rfl rfl) rfl ?_
  refine st_p (fun _ => by exact y_assign (.plain rfl)) rfl ?_
  refine aops_nil ?_
  refine awp_ret ?_
  refine ret1 (.inr rfl) rfl ?_
  exact ⟨rfl, rfl⟩

theorem bigW_c  (i : Nat) (w : W) : ACalls Try.prog 48 [avW w, .ptr i 0] [.cells i [.val (.func (.func 47) #[] #[])]] (fun v st => v = .bool (big w.value) ∧ st = [.cells i [.val (.func (.func 47) #[] #[])]]) := by
  refine acalls_body Try.func48 (by kernel_rfl) rfl Try.ntmps48 (Nat.le_of_ble_eq_true rfl) ?_
  rw [Try.results48]
  refine awp_seq ?_
  refine awp_region ?_
  refine st_n (fun _ => by exact y_box (.plain rfl)) rfl fun n1 => ?_
  refine st_p (fun _ => by exact y_assign (.plain rfl)) rfl ?_
  refine aops_nil ?_
  refine awp_seq ?_
  refine awp_region ?_
  first | refine st_p (fun _ => by exact y_loadE (.plain rfl) rfl) rfl ?_ | refine st_p (fun _ => by exact y_loadEW (.plain rfl) (by rfl)) rfl ?_ | refine st_p (fun _ => by exact y_loadEAgg (.plain rfl) (Nat.le_of_ble_eq_true rfl)) rfl ?_ | refine st_p (fun _ => by exact y_load (.plain rfl) (by first | exact .here | exact .there .here | exact .there (.there .here) | exact .there (.there (.there .here)) | exact .there (.there (.there (.there .here))) | exact .there (.there (.there (.there (.there .here)))) | exact .there (.there (.there (.there (.there (.there .here)))))) rfl) rfl ?_ | refine st_p (fun _ => by exact y_loadW (.plain rfl) (by first | exact .here | exact .there .here | exact .there (.there .here) | exact .there (.there (.there .here)) | exact .there (.there (.there (.there .here))) | exact .there (.there (.there (.there (.there .here)))) | exact .there (.there (.there (.there (.there (.there .here)))))) (by rfl)) rfl ?_ | refine st_p (fun _ => by exact y_loadAgg (.plain rfl) (by first | exact .here | exact .there .here | exact .there (.there .here) | exact .there (.there (.there .here)) | exact .there (.there (.there (.there .here))) | exact .there (.there (.there (.there (.there .here)))) | exact .there (.there (.there (.there (.there (.there .here)))))) (Nat.le_of_ble_eq_true rfl)) rfl ?_
  first | refine st_p (fun _ => by exact y_fieldPtr (.plain rfl)) rfl ?_ | refine st_p (fun _ => by exact y_fieldE (.plain rfl) (Nat.le_of_ble_eq_true rfl)) rfl ?_
  first | refine st_p (fun _ => by exact y_loadE (.plain rfl) rfl) rfl ?_ | refine st_p (fun _ => by exact y_loadEW (.plain rfl) (by rfl)) rfl ?_ | refine st_p (fun _ => by exact y_loadEAgg (.plain rfl) (Nat.le_of_ble_eq_true rfl)) rfl ?_ | refine st_p (fun _ => by exact y_load (.plain rfl) (by first | exact .here | exact .there .here | exact .there (.there .here) | exact .there (.there (.there .here)) | exact .there (.there (.there (.there .here))) | exact .there (.there (.there (.there (.there .here)))) | exact .there (.there (.there (.there (.there (.there .here)))))) rfl) rfl ?_ | refine st_p (fun _ => by exact y_loadW (.plain rfl) (by first | exact .here | exact .there .here | exact .there (.there .here) | exact .there (.there (.there .here)) | exact .there (.there (.there (.there .here))) | exact .there (.there (.there (.there (.there .here)))) | exact .there (.there (.there (.there (.there (.there .here)))))) (by rfl)) rfl ?_ | refine st_p (fun _ => by exact y_loadAgg (.plain rfl) (by first | exact .here | exact .there .here | exact .there (.there .here) | exact .there (.there (.there .here)) | exact .there (.there (.there (.there .here))) | exact .there (.there (.there (.there (.there .here)))) | exact .there (.there (.there (.there (.there (.there .here)))))) (Nat.le_of_ble_eq_true rfl)) rfl ?_
  refine aops_call (blt_lt rfl) (.plain rfl) (.cons (.plain rfl) .nil) (ACalls.here (big_c _) ?_)
  refine st_p (fun _ => by exact y_assign (.plain rfl)) rfl ?_
  refine aops_nil ?_
  refine awp_ret ?_
  exact retG (.inr rfl) (.cons (.tmp rfl) .nil) (VShift.sub (AV.Imp.refl _) (List.sublist_cons_self _ _)) ⟨rfl, rfl⟩

theorem small_c (l : List W) (u : Int) (hl : l.length ≤ 1000000) : ACalls Try.prog 27 [slW l, .int u] [] (fun v st => v = .bool (smallB l u) ∧ st = []) := by
  refine acalls_body Try.func27 (by kernel_rfl) rfl Try.ntmps27 (Nat.le_of_ble_eq_true rfl) ?_
  rw [Try.results27]
  refine awp_seq ?_
  refine awp_region ?_
  refine st_p (fun _ => by exact y_assign (.plain rfl)) rfl ?_
  refine aops_nil ?_
  refine awp_seq ?_
  refine awp_region ?_
  refine st_n (fun _ => by exact y_alloc) rfl fun n1 => ?_
  first | refine st_s (fun _ => by exact y_storeW (by rfl) rfl (.plain rfl) (.plain rfl) (by first | exact .here | exact .there .here | exact .there (.there .here) | exact .there (.there (.there .here)) | exact .there (.there (.there (.there .here))) | exact .there (.there (.there (.there (.there .here)))) | exact .there (.there (.there (.there (.there (.there .here)))))) (by rfl)) ?_ | refine st_s (fun _ => by exact y_store (by rfl) rfl (.plain rfl) (.plain rfl) (by first | exact .here | exact .there .here | exact .there (.there .here) | exact .there (.there (.there .here)) | exact .there (.there (.there (.there .here))) | exact .there (.there (.there (.there (.there .here)))) | exact .there (.there (.there (.there (.there (.there .here)))))) (Nat.le_of_ble_eq_true rfl)) ?_
  refine aops_nil ?_
  refine awp_seq ?_
  refine awp_region ?_
  first | refine st_p (fun _ => by exact y_loadE (.plain rfl) rfl) rfl ?_ | refine st_p (fun _ => by exact y_loadEW (.plain rfl) (by rfl)) rfl ?_ | refine st_p (fun _ => by exact y_loadEAgg (.plain rfl) (Nat.le_of_ble_eq_true rfl)) rfl ?_ | refine st_p (fun _ => by exact y_load (.plain rfl) (by first | exact .here | exact .there .here | exact .there (.there .here) | exact .there (.there (.there .here)) | exact .there (.there (.there (.there .here))) | exact .there (.there (.there (.there (.there .here)))) | exact .there (.there (.there (.there (.there (.there .here)))))) rfl) rfl ?_ | refine st_p (fun _ => by exact y_loadW (.plain rfl) (by first | exact .here | exact .there .here | exact .there (.there .here) | exact .there (.there (.there .here)) | exact .there (.there (.there (.there .here))) | exact .there (.there (.there (.there (.there .here)))) | exact .there (.there (.there (.there (.there (.there .here)))))) (by rfl)) rfl ?_ | refine st_p (fun _ => by exact y_loadAgg (.plain rfl) (by first | exact .here | exact .there .here | exact .there (.there .here) | exact .there (.there (.there .here)) | exact .there (.there (.there (.there .here))) | exact .there (.there (.there (.there (.there .here)))) | exact .there (.there (.there (.there (.there (.there .here)))))) (Nat.le_of_ble_eq_true rfl)) rfl ?_
  refine st_p (fun _ => by exact y_move (.plain rfl)) rfl ?_
  refine aops_call (blt_lt rfl) (.plain rfl) (.cons (.plain rfl) .nil) (ACalls.here (big_c _) ?_)
  refine st_p (fun _ => by exact y_not (.plain rfl)) rfl ?_
  refine st_p (fun _ => by exact y_move (.plain rfl)) rfl ?_
  refine st_g rfl rfl rfl (by first | exact Says.bool _ _ | exact Says.opt _ _ _) (fun hc _ => by exact y_move (.plain rfl)) rfl ?_
  refine st_g rfl rfl rfl (by first | exact Says.bool _ _ | exact Says.opt _ _ _) (fun hc _ => by exact y_makeFunc (.cons (.plain rfl) .nil)) rfl ?_
  refine st_g rfl rfl rfl (by first | exact Says.bool _ _ | exact Says.opt _ _ _) (fun hc _ => by exact y_call (.plain rfl) (.cons (.opt rfl hc) (.cons (.opt rfl hc) .nil)) (id (containsFunc_c l hl 48 [.ptr n1 0] (fun w => big w.value) _ (fun w _ => bigW_c n1 w)))) rfl ?_
  refine st_g rfl rfl rfl (by first | exact Says.bool _ _ | exact Says.opt _ _ _) (fun hc _ => by exact y_not (.opt rfl hc)) rfl ?_
  refine st_p (fun _ => by exact y_and (.plain rfl) rfl rfl) rfl ?_
  refine st_p (fun _ => by exact y_assign (.plain rfl)) rfl ?_
  refine aops_nil ?_
  refine awp_ret ?_
  refine ret1 (.inr rfl) rfl ?_
  exact ⟨congrArg AV.bool (by simp [smallB]), rfl⟩

theorem values_c (l : List W) (hl : l.length ≤ 1000) (h : ∀ w ∈ l, big w.value = false) : ACalls Try.prog 28 [slW l] [] (fun v st => v = .int (sumV l) ∧ st = []) := by
  refine acalls_body Try.func28 (by kernel_rfl) rfl Try.ntmps28 (Nat.le_of_ble_eq_true rfl) ?_
  rw [Try.results28]
  refine awp_seq ?_
  refine awp_region ?_
  refine st_p (fun _ => by exact y_assign (.plain rfl)) rfl ?_
  refine aops_nil ?_
  refine awp_seq ?_
  refine awp_region ?_
  refine st_p (fun _ => by exact y_assign (.plain rfl)) rfl ?_
  refine aops_nil ?_
  refine awp_seq ?_
  refine awp_seq ?_
  refine awp_region ?_
  refine st_p (fun _ => by exact y_move (.plain rfl)) rfl ?_
  first | refine st_p (fun _ => by exact y_len (.plain rfl)) rfl ?_ | refine st_p (fun _ => by exact y_lenArr (.plain rfl)) rfl ?_
  refine st_p (fun _ => by exact y_move (.plain rfl)) rfl ?_
  refine aops_nil ?_
  refine awp_block ?_
  refine awp_loop (X := Nat) (fun x => [(0, slW l), (3, .int (sumV (l.take x))), (6, slW l), (7, .int ((l.map encW).length : Int)), (8, .int (x : Int))]) (fun x => []) (fun x => x ≤ l.length) (fun x => l.length - x) 0 (Nat.zero_le _) ?_ ?_
  · exact Weak.of (by (repeat (first | exact .nil _ | refine .cons rfl (by first | exact AV.Imp.refl _ | exact AV.Imp.grow_sl | exact AV.Imp.full_sl | exact AV.Imp.own_sl | exact AV.Imp.nil_sl | exact AV.Imp.nil_full | exact AV.Imp.nil_grow | exact AV.Imp.full_grow | exact AV.Imp.own_grow | exact AV.Imp.of_eq (congrArg AV.int (by omega)) | exact AV.Imp.of_eq (by simp; try omega)) ?_)); done) (by (repeat (first | exact .nil _ | refine .cons (by first | exact .here | exact .there .here | exact .there (.there .here) | exact .there (.there (.there .here)) | exact .there (.there (.there (.there .here))) | exact .there (.there (.there (.there (.there .here)))) | exact .there (.there (.there (.there (.there (.there .here)))))) ?_)); done)
  · intro k hk
    refine awp_seq ?_
    refine awp_region ?_
    refine st_p (fun _ => by exact y_lss (.plain rfl) (.plain rfl)) rfl ?_
    refine aops_nil ?_
    refine awp_seq ?_
    refine awp_cond rfl (fun h1 => ?_) (fun h1 => ?_)
    · skip
      try simp only [decide_eq_true_eq, decide_eq_false_iff_not, Bool.not_eq_true', Bool.not_eq_false', Bool.not_eq_true, Bool.not_eq_false, List.length_map, Int.ofNat_lt, Int.ofNat_le, Bool.or_eq_true, Bool.and_eq_true, Bool.or_eq_false_iff, Bool.and_eq_false_iff] at h1
      refine awp_skip ?_
      refine awp_seq ?_
      refine awp_block ?_
      refine awp_seq ?_
      refine awp_region ?_
      first | refine st_p (fun _ => by exact y_indexMap (.plain rfl) (.plain rfl) rfl (by refine ⟨?_, ?_⟩; (first | omega | (simp; omega) | (simp at hc; omega) | (simp at hc ⊢; omega) | (simp; done)); rfl)) rfl ?_ | refine st_p (fun _ => by exact y_indexT (.plain rfl) (.plain rfl) (by first | omega | (simp; omega) | (simp at hc; omega) | (simp at hc ⊢; omega) | (simp; done)) (by first | omega | (simp; omega) | (simp at hc; omega) | (simp at hc ⊢; omega) | (simp; done))) rfl ?_ | refine st_p (fun _ => by exact y_index (.plain rfl) (.plain rfl) (by omega) rfl) rfl ?_ | refine st_p (fun _ => by exact y_indexArr (.plain rfl) (.plain rfl) rfl (by first | omega | (simp; omega) | (simp at hc; omega) | (simp at hc ⊢; omega) | (simp; done))) rfl ?_ | refine st_p (fun _ => by exact y_indexVar (.plain rfl) (.plain rfl) rfl (by first | omega | (simp; omega) | (simp at hc; omega) | (simp at hc ⊢; omega) | (simp; done))) rfl ?_
      first | refine st_p (fun _ => by exact y_loadE (.plain rfl) rfl) rfl ?_ | refine st_p (fun _ => by exact y_loadEW (.plain rfl) (by rfl)) rfl ?_ | refine st_p (fun _ => by exact y_loadEAgg (.plain rfl) (Nat.le_of_ble_eq_true rfl)) rfl ?_ | refine st_p (fun _ => by exact y_load (.plain rfl) (by first | exact .here | exact .there .here | exact .there (.there .here) | exact .there (.there (.there .here)) | exact .there (.there (.there (.there .here))) | exact .there (.there (.there (.there (.there .here)))) | exact .there (.there (.there (.there (.there (.there .here)))))) rfl) rfl ?_ | refine st_p (fun _ => by exact y_loadW (.plain rfl) (by first | exact .here | exact .there .here | exact .there (.there .here) | exact .there (.there (.there .here)) | exact .there (.there (.there (.there .here))) | exact .there (.there (.there (.there (.there .here)))) | exact .there (.there (.there (.there (.there (.there .here)))))) (by rfl)) rfl ?_ | refine st_p (fun _ => by exact y_loadAgg (.plain rfl) (by first | exact .here | exact .there .here | exact .there (.there .here) | exact .there (.there (.there .here)) | exact .there (.there (.there (.there .here))) | exact .there (.there (.there (.there (.there .here)))) | exact .there (.there (.there (.there (.there (.there .here)))))) (Nat.le_of_ble_eq_true rfl)) rfl ?_
      refine st_n (fun _ => by exact y_alloc) rfl fun n1 => ?_
      first | refine st_s (fun _ => by exact y_storeW (by rfl) rfl (.plain rfl) (.plain rfl) (by first | exact .here | exact .there .here | exact .there (.there .here) | exact .there (.there (.there .here)) | exact .there (.there (.there (.there .here))) | exact .there (.there (.there (.there (.there .here)))) | exact .there (.there (.there (.there (.there (.there .here)))))) (by rfl)) ?_ | refine st_s (fun _ => by exact y_store (by rfl) rfl (.plain rfl) (.plain rfl) (by first | exact .here | exact .there .here | exact .there (.there .here) | exact .there (.there (.there .here)) | exact .there (.there (.there (.there .here))) | exact .there (.there (.there (.there (.there .here)))) | exact .there (.there (.there (.there (.there (.there .here)))))) (Nat.le_of_ble_eq_true rfl)) ?_
      refine aops_nil ?_
      have hb1 := sumV_bound l h k hk
      have hb2 := sumV_bound l h (k + 1) (by omega)
      rw [sumV_step l k h1] at hb2
      refine awp_region ?_
      refine st_p (fun _ => by exact y_move (.plain rfl)) rfl ?_
      first | refine st_p (fun _ => by exact y_fieldPtr (.plain rfl)) rfl ?_ | refine st_p (fun _ => by exact y_fieldE (.plain rfl) (Nat.le_of_ble_eq_true rfl)) rfl ?_
      first | refine st_p (fun _ => by exact y_loadE (.plain rfl) rfl) rfl ?_ | refine st_p (fun _ => by exact y_loadEW (.plain rfl) (by rfl)) rfl ?_ | refine st_p (fun _ => by exact y_loadEAgg (.plain rfl) (Nat.le_of_ble_eq_true rfl)) rfl ?_ | refine st_p (fun _ => by exact y_load (.plain rfl) (by first | exact .here | exact .there .here | exact .there (.there .here) | exact .there (.there (.there .here)) | exact .there (.there (.there (.there .here))) | exact .there (.there (.there (.there (.there .here)))) | exact .there (.there (.there (.there (.there (.there .here)))))) rfl) rfl ?_ | refine st_p (fun _ => by exact y_loadW (.plain rfl) (by first | exact .here | exact .there .here | exact .there (.there .here) | exact .there (.there (.there .here)) | exact .there (.there (.there (.there .here))) | exact .there (.there (.there (.there (.there .here)))) | exact .there (.there (.there (.there (.there (.there .here)))))) (by rfl)) rfl ?_ | refine st_p (fun _ => by exact y_loadAgg (.plain rfl) (by first | exact .here | exact .there .here | exact .there (.there .here) | exact .there (.there (.there .here)) | exact .there (.there (.there (.there .here))) | exact .there (.there (.there (.there (.there .here)))) | exact .there (.there (.there (.there (.there (.there .here)))))) (Nat.le_of_ble_eq_true rfl)) rfl ?_
      refine st_p (fun _ => by exact y_add (.plain rfl) (.plain rfl) (by first | omega | (simp; omega) | (simp at hc; omega) | (simp at hc ⊢; omega) | (simp; done))) rfl ?_
      refine st_p (fun _ => by exact y_assign (.plain rfl)) rfl ?_
      refine aops_nil ?_
      refine awp_region ?_
      refine st_p (fun _ => by exact y_add (.plain rfl) (.plain rfl) (by first | omega | (simp; omega) | (simp at hc; omega) | (simp at hc ⊢; omega) | (simp; done))) rfl ?_
      refine st_p (fun _ => by exact y_move (.plain rfl)) rfl ?_
      refine aops_nil ?_
      exact ⟨k + 1, by omega, by omega, Weak.of (by (repeat (first | exact .nil _ | refine .cons rfl (by first | exact AV.Imp.refl _ | exact AV.Imp.of_eq (congrArg AV.int (by rw [sumV_step l k h1]))) ?_ | refine .cons rfl (by first | exact AV.Imp.refl _ | exact AV.Imp.grow_sl | exact AV.Imp.full_sl | exact AV.Imp.own_sl | exact AV.Imp.nil_sl | exact AV.Imp.nil_full | exact AV.Imp.nil_grow | exact AV.Imp.full_grow | exact AV.Imp.own_grow | exact AV.Imp.of_eq (congrArg AV.int (by omega)) | exact AV.Imp.of_eq (by simp; try omega)) ?_)); done) (by (repeat (first | exact .nil _ | refine .cons (by first | exact .here | exact .there .here | exact .there (.there .here) | exact .there (.there (.there .here)) | exact .there (.there (.there (.there .here))) | exact .there (.there (.there (.there (.there .here)))) | exact .there (.there (.there (.there (.there (.there .here)))))) ?_)); done)⟩
    · skip
      try simp only [decide_eq_true_eq, decide_eq_false_iff_not, Bool.not_eq_true', Bool.not_eq_false', Bool.not_eq_true, Bool.not_eq_false, List.length_map, Int.ofNat_lt, Int.ofNat_le, Bool.or_eq_true, Bool.and_eq_true, Bool.or_eq_false_iff, Bool.and_eq_false_iff] at h1
      refine awp_exit ?_
      refine awp_seq ?_
      refine awp_region ?_
      refine st_p (fun _ => by exact y_move (.plain rfl)) rfl ?_
      refine st_p (fun _ => by exact y_assign (.plain rfl)) rfl ?_
      refine aops_nil ?_
      refine awp_ret ?_
      refine ret1 (.inr rfl) rfl ?_
      exact ⟨congrArg AV.int (by obtain rfl : k = l.length := (by omega); rw [List.take_length]), rfl⟩

end Go.Proofs
