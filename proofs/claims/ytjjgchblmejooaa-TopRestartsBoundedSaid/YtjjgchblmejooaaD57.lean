/- The times of the restarts. -/
import Derived.Test.YtjjgchblmejooaaC57
import Derived.Test.YtjjgchblmejooaaN57
set_option linter.unusedVariables false
set_option linter.unusedSimpArgs false
set_option maxRecDepth 10000
namespace Go.Proofs
open Go.Aw Wl Sv
theorem cloneI0_c : ACalls Try.prog 46 [AV.sl 1 (List.map encI [])] [] (fun v st => v = .full 1 [] ∧ st = []) := by
  refine acalls_body Try.func46 (by kernel_rfl) rfl Try.ntmps46 (le_ rfl) ?_
  rw [Try.results46]
  refine awp_seq ?_
  refine awp_region ?_
  refine st_p (fun _ => by exact y_assign (.plain rfl)) rfl ?_
  refine aops_nil ?_
  refine awp_seq ?_
  refine awp_seq ?_
  refine awp_region ?_
  refine st_p (fun _ => by exact y_move (.plain rfl)) rfl ?_
  refine st_p (fun _ => by exact y_eqNilA (.plain rfl)) rfl ?_
  refine aops_nil ?_
  refine awp_anyB (t := 4) rfl fun b => ?_
  refine awp_cond rfl (fun h1 => ?_) (fun h1 => ?_)
  · skip
    try simp only [decide_eq_true_eq, decide_eq_false_iff_not, Bool.not_eq_true', Bool.not_eq_false', Bool.not_eq_true, Bool.not_eq_false, List.length_map, Int.ofNat_lt, Int.ofNat_le, Bool.or_eq_true, Bool.and_eq_true, Bool.or_eq_false_iff, Bool.and_eq_false_iff] at h1
    refine awp_seq ?_
    refine awp_region ?_
    refine st_p (fun _ => by exact y_assign (.plain rfl)) rfl ?_
    refine aops_nil ?_
    refine awp_ret ?_
    exact retG (.inr rfl) (.cons (.tmp rfl) .nil) (VShift.of AV.nil_full (.nil _)) ⟨rfl, rfl⟩
  · skip
    try simp only [decide_eq_true_eq, decide_eq_false_iff_not, Bool.not_eq_true', Bool.not_eq_false', Bool.not_eq_true, Bool.not_eq_false, List.length_map, Int.ofNat_lt, Int.ofNat_le, Bool.or_eq_true, Bool.and_eq_true, Bool.or_eq_false_iff, Bool.and_eq_false_iff] at h1
    refine awp_skip ?_
    refine awp_seq ?_
    refine awp_region ?_
    refine st_p (fun _ => by exact y_buildSlice .nil rfl (le_ rfl)) rfl ?_
    refine st_p (fun _ => by exact y_move (.plain rfl)) rfl ?_
    refine st_p (fun _ => by exact y_appendNil (by rfl) (.plain rfl) (.plain rfl) (by simp)) rfl ?_
    refine st_p (fun _ => by exact y_assign (.plain rfl)) rfl ?_
    refine aops_nil ?_
    refine awp_ret ?_
    exact retG (.inr rfl) (.cons (.tmp rfl) .nil) (VShift.drop) ⟨rfl, rfl⟩

theorem cloneI1_c (l : List (Int)) (hn : l ≠ []) (hl : l.length ≤ 1000000) : ACalls Try.prog 46 [AV.sl 1 (List.map encI l)] [] (fun v st => ∃ j, v = .own 1 j (List.map encI l) ∧ st = [.tail (some j)]) := by
  refine acalls_body Try.func46 (by kernel_rfl) rfl Try.ntmps46 (le_ rfl) ?_
  rw [Try.results46]
  refine awp_seq ?_
  refine awp_region ?_
  refine st_p (fun _ => by exact y_assign (.plain rfl)) rfl ?_
  refine aops_nil ?_
  refine awp_seq ?_
  refine awp_seq ?_
  refine awp_region ?_
  refine st_p (fun _ => by exact y_move (.plain rfl)) rfl ?_
  refine st_p (fun _ => by exact y_eqNilF (.plain rfl) (by simpa using hn)) rfl ?_
  refine aops_nil ?_
  refine awp_cond rfl (fun h1 => ?_) (fun h1 => ?_)
  · skip
    cases h1
  · skip
    try simp only [decide_eq_true_eq, decide_eq_false_iff_not, Bool.not_eq_true', Bool.not_eq_false', Bool.not_eq_true, Bool.not_eq_false, List.length_map, Int.ofNat_lt, Int.ofNat_le, Bool.or_eq_true, Bool.and_eq_true, Bool.or_eq_false_iff, Bool.and_eq_false_iff] at h1
    refine awp_skip ?_
    refine awp_seq ?_
    refine awp_region ?_
    refine st_p (fun _ => by exact y_buildSlice .nil rfl (le_ rfl)) rfl ?_
    refine st_p (fun _ => by exact y_move (.plain rfl)) rfl ?_
    refine st_n (fun _ => by exact y_appendNew (by rfl) (.plain rfl) (.plain rfl) (by simpa using hn) (by simp; omega)) rfl fun n1 => ?_
    refine st_p (fun _ => by exact y_assign (.plain rfl)) rfl ?_
    refine aops_nil ?_
    refine awp_ret ?_
    exact retG (.inr rfl) (.cons (.tmp rfl) .nil) VShift.refl ⟨n1, rfl, rfl⟩

theorem cloneI_c (l : List (Int)) (hl : l.length ≤ 1000000) : ACalls Try.prog 46 [AV.sl 1 (List.map encI l)] [] (fun v st => v = AV.sl 1 (List.map encI l) ∧ st = []) := by
  by_cases hn : l = []
  · subst hn
    exact cloneI0_c.shift fun v st ⟨h1, h2⟩ => ⟨_, [], VShift.of (by rw [h1]; exact AV.Imp.full_sl) (.nil _), rfl, rfl⟩
  · exact (cloneI1_c l hn hl).shift fun v st ⟨j, h1, h2⟩ => ⟨_, [], VShift.of (by rw [h1]; exact AV.Imp.own_sl) (.nil _), rfl, rfl⟩

theorem cloneV1_c (l : List Int) (hn : l ≠ []) (hl : l.length ≤ 1000000) : ACalls Try.prog 46 [.sl 1 (l.map encI)] [] (fun v st => ∃ j, v = .vec 1 (some j) l.length ∧ st = [.vec (some j) (l.map AV.int)]) := by
  refine acalls_body Try.func46 (by kernel_rfl) rfl Try.ntmps46 (le_ rfl) ?_
  rw [Try.results46]
  refine awp_seq ?_
  refine awp_region ?_
  refine st_p (fun _ => by exact y_assign (.plain rfl)) rfl ?_
  refine aops_nil ?_
  refine awp_seq ?_
  refine awp_seq ?_
  refine awp_region ?_
  refine st_p (fun _ => by exact y_move (.plain rfl)) rfl ?_
  refine st_p (fun _ => by exact y_eqNilF (.plain rfl) (by simpa using hn)) rfl ?_
  refine aops_nil ?_
  refine awp_cond rfl (fun h1 => ?_) (fun h1 => ?_)
  · skip
    cases h1
  · skip
    try simp only [decide_eq_true_eq, decide_eq_false_iff_not, Bool.not_eq_true', Bool.not_eq_false', Bool.not_eq_true, Bool.not_eq_false, List.length_map, Int.ofNat_lt, Int.ofNat_le, Bool.or_eq_true, Bool.and_eq_true, Bool.or_eq_false_iff, Bool.and_eq_false_iff] at h1
    refine awp_skip ?_
    refine awp_seq ?_
    refine awp_region ?_
    refine st_p (fun _ => by exact y_buildSlice .nil rfl (le_ rfl)) rfl ?_
    refine st_p (fun _ => by exact y_move (.plain rfl)) rfl ?_
    refine aops_weak (Weak.vec0 []) ?_
    refine st_n (fun _ => by exact y_vappend (by rfl) (by rfl) (.imp (.plain rfl) AV.Imp.full_vec) (by rfl) (.plain rfl) (by simpa using hn) (by simp; omega) .here) rfl fun nj => ?_
    refine st_p (fun _ => by exact y_assign (.plain rfl)) rfl ?_
    refine aops_nil ?_
    refine awp_ret ?_
    exact retG (.inr rfl) (.cons (.tmp rfl) .nil) VShift.refl ⟨nj, by rw [List.length_map, Nat.zero_add]; rfl, by rw [List.nil_append, enc1_flat]⟩

theorem cloneV_c (l : List Int) (hl : l.length ≤ 1000000) : ACalls Try.prog 46 [.sl 1 (l.map encI)] [] (fun v st => ∃ t, (l = [] ↔ t = none) ∧ v = .vec 1 t l.length ∧ st = [.vec t (l.map AV.int)]) := by
  by_cases hn : l = []
  · subst hn
    exact cloneI0_c.shift fun v st ⟨h1, h2⟩ => ⟨.vec 1 none 0, [.vec none []], by
      subst h1; subst h2
      exact fun F g u w hw hv => ⟨g, Ghost.ext.refl g, RelW.vec0 hw [], AV.Imp.full_vec g u hv⟩, none, ⟨fun _ => rfl, fun _ => rfl⟩, rfl, rfl⟩
  · exact (cloneV1_c l hn hl).mono fun v st ⟨j, h1, h2⟩ => ⟨some j, ⟨fun h => absurd h hn, fun h => by cases h⟩, h1, h2⟩

theorem recentK_c (n p : Nat) (now : Int) (q : Sv.Spc) (hn : 0 ≤ now ∧ now ≤ 1099511627776) (hw : 0 ≤ q.window ∧ q.window ≤ 1099511627776) (t : Int) : ACalls Try.prog 47 [.int t, .ptr n 0, .ptr p 0] [.cells n [.int now], .cells p (encSp q)] (fun v st => v = .bool ((fun t : Int => decide (t ≤ now - q.window)) t) ∧ st = [.cells n [.int now], .cells p (encSp q)]) := by
  refine acalls_body Try.func47 (by kernel_rfl) rfl Try.ntmps47 (le_ rfl) ?_
  rw [Try.results47]
  refine awp_seq ?_
  refine awp_region ?_
  refine st_p (fun _ => by exact y_assign (.plain rfl)) rfl ?_
  refine aops_nil ?_
  refine awp_seq ?_
  refine awp_region ?_
  refine st_p (fun _ => by exact y_move (.plain rfl)) rfl ?_
  refine st_p (fun _ => by exact y_load (.plain rfl) (by first | exact .here | exact k1 | exact k2 | exact k3 | exact k4 | exact k5 | exact k6 | exact k7 | exact k8 | exact k9 | exact k10 | exact k11 | exact k12 | exact k13) rfl) rfl ?_
  refine st_p (fun _ => by exact y_fieldPtr (.plain rfl)) rfl ?_
  refine st_p (fun _ => by exact y_load (.plain rfl) (by first | exact .here | exact k1 | exact k2 | exact k3 | exact k4 | exact k5 | exact k6 | exact k7 | exact k8 | exact k9 | exact k10 | exact k11 | exact k12 | exact k13) rfl) rfl ?_
  refine st_p (fun _ => by exact y_sub (.plain rfl) (.plain rfl) (by first | omega | (simp; omega) | (simp at hc; omega) | (simp at hc ⊢; omega) | (simp; done))) rfl ?_
  refine st_p (fun _ => by exact y_leq (.plain rfl) (.plain rfl)) rfl ?_
  refine st_p (fun _ => by exact y_assign (.plain rfl)) rfl ?_
  refine aops_nil ?_
  refine awp_ret ?_
  exact retG (.inr rfl) (.cons (.tmp rfl) .nil) (VShift.of2 (AV.Imp.refl _) (by (repeat (first | exact .refl _ | exact .nil _ | apply ItLe2.cons (by first | exact .here | exact k1 | exact k2 | exact k3 | exact k4 | exact k5 | exact k6 | exact k7 | exact k8 | exact k9 | exact k10 | exact k11 | exact k12 | exact k13) | apply ItLe2.cells (by first | exact .here | exact k1 | exact k2 | exact k3 | exact k4 | exact k5 | exact k6 | exact k7 | exact k8 | exact k9 | exact k10 | exact k11 | exact k12 | exact k13) (by repeat (first | exact .nil | refine .cons (by first | exact AV.Imp.refl _ | exact Sl.imp | exact AV.Imp.agg RowOf.imp | exact AV.Imp.grow_sl | exact AV.Imp.nil_grow | exact AV.Imp.full_grow | exact AV.Imp.own_grow | exact AV.Imp.grow_of rfl | exact AV.Imp.sl_of rfl | exact AV.Imp.int_of (by omega) | exact AV.Imp.of_eq (by first | omega | simpa)) ?_)) | apply ItLe2.tail0)); done)) ⟨rfl, rfl⟩

theorem indexFV_c (t : Option Nat) (l : List Int) (hl : l.length ≤ 1000000) (n p : Nat) (now : Int) (q : Sv.Spc) (hn : 0 ≤ now ∧ now ≤ 1099511627776) (hw : 0 ≤ q.window ∧ q.window ≤ 1099511627776) : ACalls Try.prog 50 [.vec 1 t l.length, .clo 47 [.ptr n 0, .ptr p 0]] [.vec t (l.map AV.int), .cells n [.int now], .cells p (encSp q)] (fun v st => v = .int (idxF (fun t : Int => decide (t ≤ now - q.window)) l) ∧ st = [.vec t (l.map AV.int), .cells n [.int now], .cells p (encSp q)]) := by
  refine acalls_body Try.func50 (by kernel_rfl) rfl Try.ntmps50 (le_ rfl) ?_
  rw [Try.results50]
  refine awp_seq ?_
  refine awp_region ?_
  refine st_p (fun _ => by exact y_assign (.plain rfl)) rfl ?_
  refine aops_nil ?_
  refine awp_seq ?_
  refine awp_seq ?_
  refine awp_region ?_
  refine st_p (fun _ => by exact y_move (.plain rfl)) rfl ?_
  first | refine st_p (fun _ => by exact y_lenN (.plain rfl)) rfl ?_ | refine st_p (fun _ => by exact y_len (.plain rfl)) rfl ?_ | refine st_p (fun _ => by exact y_lenArr (.plain rfl)) rfl ?_ | refine st_p (fun _ => by exact y_vlen (.plain rfl)) rfl ?_ | refine st_p (fun _ => by exact y_strLen (by rfl) (.plain rfl)) rfl ?_
  refine st_p (fun _ => by exact y_move (.plain rfl)) rfl ?_
  refine aops_nil ?_
  refine awp_block ?_
  refine awp_loop2 (X := Nat) [0, 1, 7] (.cons rfl (.cons rfl (.cons rfl .nil))) (fun σ x => ((8, .int (x : Int)) : Nat × AV) :: σ) (fun R x => R) (fun x => x ≤ l.length ∧ (∀ i (h : i < l.length), i < x → (fun t : Int => decide (t ≤ now - q.window)) l[i] = false)) (fun x => l.length - x) 0 (by exact Weak.of2 (by (repeat (first | exact .nil _ | refine .cons rfl (by first | exact AV.Imp.refl _ | exact Sl.imp | exact AV.Imp.agg RowOf.imp | exact AV.Imp.grow_sl | exact AV.Imp.nil_grow | exact AV.Imp.full_grow | exact AV.Imp.own_grow | exact AV.Imp.grow_of rfl | exact AV.Imp.sl_of rfl | exact AV.Imp.int_of (by omega) | exact AV.Imp.of_eq (by first | omega | simpa)) ?_)); done) (by (repeat (first | exact .refl _ | exact .nil _ | apply ItLe2.cons (by first | exact .here | exact k1 | exact k2 | exact k3 | exact k4 | exact k5 | exact k6 | exact k7 | exact k8 | exact k9 | exact k10 | exact k11 | exact k12 | exact k13) | apply ItLe2.cells (by first | exact .here | exact k1 | exact k2 | exact k3 | exact k4 | exact k5 | exact k6 | exact k7 | exact k8 | exact k9 | exact k10 | exact k11 | exact k12 | exact k13) (by repeat (first | exact .nil | refine .cons (by first | exact AV.Imp.refl _ | exact Sl.imp | exact AV.Imp.agg RowOf.imp | exact AV.Imp.grow_sl | exact AV.Imp.nil_grow | exact AV.Imp.full_grow | exact AV.Imp.own_grow | exact AV.Imp.grow_of rfl | exact AV.Imp.sl_of rfl | exact AV.Imp.int_of (by omega) | exact AV.Imp.of_eq (by first | omega | simpa)) ?_)) | apply ItLe2.tail0)); done)) ⟨Nat.zero_le _, by omega⟩ ?_
  rintro k ⟨hk, hinv⟩
  refine awp_seq ?_
  refine awp_region ?_
  refine st_p (fun _ => by exact y_lss (.plain rfl) (.plain rfl)) rfl ?_
  refine aops_nil ?_
  refine awp_seq ?_
  refine awp_cond rfl (fun h1 => ?_) (fun h1 => ?_)
  · skip
    try simp only [decide_eq_true_eq, decide_eq_false_iff_not, Bool.not_eq_true', Bool.not_eq_false', Bool.not_eq_true, Bool.not_eq_false, List.length_map, Int.ofNat_lt, Int.ofNat_le, Bool.or_eq_true, Bool.and_eq_true, Bool.or_eq_false_iff, Bool.and_eq_false_iff] at h1
    refine awp_skip ?_
    refine awp_seq ?_
    refine awp_block ?_
    refine awp_seq ?_
    refine awp_region ?_
    refine st_p (fun _ => by exact y_move (.plain rfl)) rfl ?_
    refine st_p (fun _ => by exact y_assign (.plain rfl)) rfl ?_
    refine aops_nil ?_
    refine awp_seq ?_
    rcases t with _ | j
    · exact awp_vecNone (t := 0) rfl (by omega)
    refine awp_region ?_
    refine st_p (fun _ => by exact y_move (.plain rfl)) rfl ?_
    refine st_p (fun _ => by exact y_move (.plain rfl)) rfl ?_
    refine st_p (fun _ => by exact y_move (.plain rfl)) rfl ?_
    refine st_p (fun _ => by exact y_indexArr (.imp (.plain rfl) AV.Imp.vec_arr) (.plain rfl) rfl (by omega)) rfl ?_
    refine st_p (v := AV.int l[k]) (fun _ => by exact y_vload (.plain rfl) (by first | exact .here | exact k1 | exact k2 | exact k3 | exact k4 | exact k5 | exact k6 | exact k7 | exact k8 | exact k9 | exact k10 | exact k11 | exact k12 | exact k13) (by rw [Nat.zero_add, Nat.mul_one, List.getElem?_map, List.getElem?_eq_getElem h1]; rfl)) rfl ?_
    refine aops_call (blt_lt rfl) (.plain rfl) (.cons (.plain rfl) .nil) (ACalls.then (ACalls.keep (by apply Takes.cons (by first | exact .here | exact k1 | exact k2 | exact k3 | exact k4 | exact k5 | exact k6 | exact k7 | exact k8 | exact k9 | exact k10 | exact k11 | exact k12 | exact k13); apply Takes.cons (by first | exact .here | exact k1 | exact k2 | exact k3 | exact k4 | exact k5 | exact k6 | exact k7 | exact k8 | exact k9 | exact k10 | exact k11 | exact k12 | exact k13); exact .nil _) (recentK_c n p now q hn hw l[k])) ?_)
    refine aops_nil ?_
    refine awp_cond rfl (fun h2 => ?_) (fun h2 => ?_)
    · skip
      try simp only [decide_eq_true_eq, decide_eq_false_iff_not, Bool.not_eq_true', Bool.not_eq_false', Bool.not_eq_true, Bool.not_eq_false, List.length_map, Int.ofNat_lt, Int.ofNat_le, Bool.or_eq_true, Bool.and_eq_true, Bool.or_eq_false_iff, Bool.and_eq_false_iff] at h2
      refine awp_seq ?_
      refine awp_region ?_
      refine st_p (fun _ => by exact y_move (.plain rfl)) rfl ?_
      refine st_p (fun _ => by exact y_assign (.plain rfl)) rfl ?_
      refine aops_nil ?_
      refine awp_ret ?_
      exact retG (.inr rfl) (.cons (.tmp rfl) .nil) VShift.refl ⟨by rw [idxF_at _ l k h1 (decide_eq_true h2) hinv]; rfl, rfl⟩
    · skip
      try simp only [decide_eq_true_eq, decide_eq_false_iff_not, Bool.not_eq_true', Bool.not_eq_false', Bool.not_eq_true, Bool.not_eq_false, List.length_map, Int.ofNat_lt, Int.ofNat_le, Bool.or_eq_true, Bool.and_eq_true, Bool.or_eq_false_iff, Bool.and_eq_false_iff] at h2
      refine awp_skip ?_
      refine awp_region ?_
      refine st_p (fun _ => by exact y_add (.plain rfl) (.plain rfl) (by first | omega | (simp; omega) | (simp at hc; omega) | (simp at hc ⊢; omega) | (simp; done))) rfl ?_
      refine st_p (fun _ => by exact y_move (.plain rfl)) rfl ?_
      refine aops_nil ?_
      refine ⟨k + 1, ?_, ?_, Weak.of2 (by (repeat (first | exact .nil _ | refine .cons rfl (by first | exact AV.Imp.refl _ | exact Sl.imp | exact AV.Imp.agg RowOf.imp | exact AV.Imp.grow_sl | exact AV.Imp.nil_grow | exact AV.Imp.full_grow | exact AV.Imp.own_grow | exact AV.Imp.grow_of rfl | exact AV.Imp.sl_of rfl | exact AV.Imp.int_of (by omega) | exact AV.Imp.of_eq (by first | omega | simpa)) ?_)); done) (by (repeat (first | exact .refl _ | exact .nil _ | apply ItLe2.cons (by first | exact .here | exact k1 | exact k2 | exact k3 | exact k4 | exact k5 | exact k6 | exact k7 | exact k8 | exact k9 | exact k10 | exact k11 | exact k12 | exact k13) | apply ItLe2.cells (by first | exact .here | exact k1 | exact k2 | exact k3 | exact k4 | exact k5 | exact k6 | exact k7 | exact k8 | exact k9 | exact k10 | exact k11 | exact k12 | exact k13) (by repeat (first | exact .nil | refine .cons (by first | exact AV.Imp.refl _ | exact Sl.imp | exact AV.Imp.agg RowOf.imp | exact AV.Imp.grow_sl | exact AV.Imp.nil_grow | exact AV.Imp.full_grow | exact AV.Imp.own_grow | exact AV.Imp.grow_of rfl | exact AV.Imp.sl_of rfl | exact AV.Imp.int_of (by omega) | exact AV.Imp.of_eq (by first | omega | simpa)) ?_)) | apply ItLe2.tail0)); done)⟩
      · refine ⟨by omega, ?_⟩
        intro i hi hik
        by_cases e : i = k
        · subst e; exact decide_eq_false h2
        · exact hinv i hi (by omega)
      · omega
  · skip
    try simp only [decide_eq_true_eq, decide_eq_false_iff_not, Bool.not_eq_true', Bool.not_eq_false', Bool.not_eq_true, Bool.not_eq_false, List.length_map, Int.ofNat_lt, Int.ofNat_le, Bool.or_eq_true, Bool.and_eq_true, Bool.or_eq_false_iff, Bool.and_eq_false_iff] at h1
    refine awp_exit ?_
    refine awp_seq ?_
    refine awp_region ?_
    refine st_p (fun _ => by exact y_assign (.plain rfl)) rfl ?_
    refine aops_nil ?_
    refine awp_ret ?_
    exact retG (.inr rfl) (.cons (.tmp rfl) .nil) VShift.refl ⟨by rw [idxF_no _ l (fun i hi => hinv i hi (by omega))]; rfl, rfl⟩

theorem deleteFV_c (t : Option Nat) (l : List Int) (hl : l.length ≤ 1000000) (n p : Nat) (now : Int) (q : Sv.Spc) (hn : 0 ≤ now ∧ now ≤ 1099511627776) (hw : 0 ≤ q.window ∧ q.window ≤ 1099511627776) : ACalls Try.prog 45 [.vec 1 t l.length, .clo 47 [.ptr n 0, .ptr p 0]] [.vec t (l.map AV.int), .cells n [.int now], .cells p (encSp q)] (fun v st => v = .vec 1 t (Sv.recent q l now).length ∧ st = [.vec t ((Sv.recent q l now).map AV.int), .cells n [.int now], .cells p (encSp q)]) := by
  refine acalls_body Try.func45 (by kernel_rfl) rfl Try.ntmps45 (le_ rfl) ?_
  rw [Try.results45]
  have hcs := Sv.idxF_cases (fun t : Int => decide (t ≤ now - q.window)) l
  refine awp_seq ?_
  refine awp_region ?_
  refine st_p (fun _ => by exact y_assign (.plain rfl)) rfl ?_
  refine aops_nil ?_
  refine awp_seq ?_
  refine awp_region ?_
  refine st_p (fun _ => by exact y_move (.plain rfl)) rfl ?_
  refine st_p (fun _ => by exact y_move (.plain rfl)) rfl ?_
  refine aops_call (blt_lt rfl) (.plain rfl) (.cons (.plain rfl) (.cons (.plain rfl) .nil)) ((indexFV_c t l hl n p now q hn hw).mono ?_)
  rintro v st ⟨rfl, rfl⟩
  refine st_p (fun _ => by exact y_assign (.plain rfl)) rfl ?_
  refine aops_nil ?_
  refine awp_seq ?_
  refine awp_seq ?_
  refine awp_region ?_
  refine st_p (fun _ => by exact y_move (.plain rfl)) rfl ?_
  refine st_p (fun _ => by exact y_eql (.plain rfl) (.plain rfl)) rfl ?_
  refine aops_nil ?_
  refine awp_cond rfl (fun h1 => ?_) (fun h1 => ?_)
  · skip
    try simp only [decide_eq_true_eq, decide_eq_false_iff_not, Bool.not_eq_true', Bool.not_eq_false', Bool.not_eq_true, Bool.not_eq_false, List.length_map, Int.ofNat_lt, Int.ofNat_le, Bool.or_eq_true, Bool.and_eq_true, Bool.or_eq_false_iff, Bool.and_eq_false_iff] at h1
    have hno := fun i (hi : i < l.length) => hcs.elim (fun h => h.2 i hi) (fun ⟨i, _, e, _⟩ => by omega)
    refine awp_seq ?_
    refine awp_region ?_
    refine st_p (fun _ => by exact y_move (.plain rfl)) rfl ?_
    refine st_p (fun _ => by exact y_assign (.plain rfl)) rfl ?_
    refine aops_nil ?_
    refine awp_ret ?_
    have hr : Sv.recent q l now = l := Sv.filter_none _ l hno
    rw [hr]
    exact retG (.inr rfl) (.cons (.tmp rfl) .nil) VShift.refl ⟨rfl, rfl⟩
  · skip
    try simp only [decide_eq_true_eq, decide_eq_false_iff_not, Bool.not_eq_true', Bool.not_eq_false', Bool.not_eq_true, Bool.not_eq_false, List.length_map, Int.ofNat_lt, Int.ofNat_le, Bool.or_eq_true, Bool.and_eq_true, Bool.or_eq_false_iff, Bool.and_eq_false_iff] at h1
    obtain ⟨i0, hi0, he0, ht0, hf0⟩ : _ := hcs.resolve_left (fun h => absurd h.1 (by assumption))
    rcases t with _ | j
    · exact awp_vecNone (t := 0) rfl (by omega)
    refine awp_skip ?_
    refine awp_seq ?_
    refine awp_seq ?_
    refine awp_region ?_
    refine st_p (fun _ => by exact y_move (.plain rfl)) rfl ?_
    refine st_p (fun _ => by exact y_add (.plain rfl) (.plain rfl) (by first | omega | (simp; omega) | (simp at hc; omega) | (simp at hc ⊢; omega) | (simp; done))) rfl ?_
    refine st_p (fun _ => by exact y_assign (.plain rfl)) rfl ?_
    refine aops_nil ?_
    refine awp_block ?_
    refine awp_loop2 (X := Nat) [0, 1] (.cons rfl (.cons rfl .nil)) (fun σ x => ((5, .int ((Sv.kept (fun t : Int => decide (t ≤ now - q.window)) l x).length : Int)) : Nat × AV) :: ((6, .int (x : Int)) : Nat × AV) :: σ) (fun R x => .vec (some j) ((Sv.mid (fun t : Int => decide (t ≤ now - q.window)) l x).map AV.int) :: .cells n [.int now] :: .cells p (encSp q) :: R) (fun x => x ≤ l.length ∧ True) (fun x => l.length - x) (i0 + 1) (by rw [Sv.mid_first _ l i0 hi0 ht0 hf0]; exact Weak.of2 (by (repeat (first | exact .nil _ | refine .cons rfl (by first | exact AV.Imp.refl _ | exact AV.Imp.int_of (by rw [Sv.kept_first _ l i0 hi0 ht0 hf0, List.length_take]; omega) | exact AV.Imp.int_of (by push_cast; omega) | exact Sl.imp | exact AV.Imp.agg RowOf.imp | exact AV.Imp.grow_sl | exact AV.Imp.nil_grow | exact AV.Imp.full_grow | exact AV.Imp.own_grow | exact AV.Imp.grow_of rfl | exact AV.Imp.sl_of rfl | exact AV.Imp.int_of (by omega) | exact AV.Imp.of_eq (by first | omega | simpa)) ?_)); done) (by (repeat (first | exact .refl _ | exact .nil _ | apply ItLe2.cons (by first | exact .here | exact k1 | exact k2 | exact k3 | exact k4 | exact k5 | exact k6 | exact k7 | exact k8 | exact k9 | exact k10 | exact k11 | exact k12 | exact k13) | apply ItLe2.cells (by first | exact .here | exact k1 | exact k2 | exact k3 | exact k4 | exact k5 | exact k6 | exact k7 | exact k8 | exact k9 | exact k10 | exact k11 | exact k12 | exact k13) (by repeat (first | exact .nil | refine .cons (by first | exact AV.Imp.refl _ | exact Sl.imp | exact AV.Imp.agg RowOf.imp | exact AV.Imp.grow_sl | exact AV.Imp.nil_grow | exact AV.Imp.full_grow | exact AV.Imp.own_grow | exact AV.Imp.grow_of rfl | exact AV.Imp.sl_of rfl | exact AV.Imp.int_of (by omega) | exact AV.Imp.of_eq (by first | omega | simpa)) ?_)) | apply ItLe2.tail0)); done)) ⟨by omega, trivial⟩ ?_
    rintro k ⟨hk, -⟩
    have hkl := Sv.kept_le (fun t : Int => decide (t ≤ now - q.window)) l k
    refine awp_seq ?_
    refine awp_seq ?_
    refine awp_region ?_
    refine st_p (fun _ => by exact y_move (.plain rfl)) rfl ?_
    refine st_p (fun _ => by exact y_move (.plain rfl)) rfl ?_
    first | refine st_p (fun _ => by exact y_lenN (.plain rfl)) rfl ?_ | refine st_p (fun _ => by exact y_len (.plain rfl)) rfl ?_ | refine st_p (fun _ => by exact y_lenArr (.plain rfl)) rfl ?_ | refine st_p (fun _ => by exact y_vlen (.plain rfl)) rfl ?_ | refine st_p (fun _ => by exact y_strLen (by rfl) (.plain rfl)) rfl ?_
    refine st_p (fun _ => by exact y_lss (.plain rfl) (.plain rfl)) rfl ?_
    refine aops_nil ?_
    refine awp_cond rfl (fun h2 => ?_) (fun h2 => ?_)
    · skip
      try simp only [decide_eq_true_eq, decide_eq_false_iff_not, Bool.not_eq_true', Bool.not_eq_false', Bool.not_eq_true, Bool.not_eq_false, List.length_map, Int.ofNat_lt, Int.ofNat_le, Bool.or_eq_true, Bool.and_eq_true, Bool.or_eq_false_iff, Bool.and_eq_false_iff] at h2
      refine awp_skip ?_
      refine awp_seq ?_
      refine awp_block ?_
      refine awp_seq ?_
      refine awp_region ?_
      refine st_p (fun _ => by exact y_move (.plain rfl)) rfl ?_
      refine st_p (fun _ => by exact y_move (.plain rfl)) rfl ?_
      refine st_p (fun _ => by exact y_indexArr (.imp (.plain rfl) AV.Imp.vec_arr) (.plain rfl) rfl (by omega)) rfl ?_
      refine st_p (v := AV.int l[k]) (fun _ => by exact y_vload (.plain rfl) (by first | exact .here | exact k1 | exact k2 | exact k3 | exact k4 | exact k5 | exact k6 | exact k7 | exact k8 | exact k9 | exact k10 | exact k11 | exact k12 | exact k13) (by rw [Nat.zero_add, Nat.mul_one, List.getElem?_map, Sv.mid_get _ l k h2]; rfl)) rfl ?_
      refine st_p (fun _ => by exact y_assign (.plain rfl)) rfl ?_
      refine aops_nil ?_
      refine awp_seq ?_
      refine awp_region ?_
      refine st_p (fun _ => by exact y_move (.plain rfl)) rfl ?_
      refine st_p (fun _ => by exact y_move (.plain rfl)) rfl ?_
      refine aops_call (blt_lt rfl) (.plain rfl) (.cons (.plain rfl) .nil) (ACalls.then (ACalls.keep (by apply Takes.cons (by first | exact .here | exact k1 | exact k2 | exact k3 | exact k4 | exact k5 | exact k6 | exact k7 | exact k8 | exact k9 | exact k10 | exact k11 | exact k12 | exact k13); apply Takes.cons (by first | exact .here | exact k1 | exact k2 | exact k3 | exact k4 | exact k5 | exact k6 | exact k7 | exact k8 | exact k9 | exact k10 | exact k11 | exact k12 | exact k13); exact .nil _) (recentK_c n p now q hn hw l[k])) ?_)
      refine st_p (fun _ => by exact y_not (.plain rfl)) rfl ?_
      refine aops_nil ?_
      refine awp_cond rfl (fun h3 => ?_) (fun h3 => ?_)
      · skip
        try simp only [decide_eq_true_eq, decide_eq_false_iff_not, Bool.not_eq_true', Bool.not_eq_false', Bool.not_eq_true, Bool.not_eq_false, List.length_map, Int.ofNat_lt, Int.ofNat_le, Bool.or_eq_true, Bool.and_eq_true, Bool.or_eq_false_iff, Bool.and_eq_false_iff] at h3
        refine awp_seq ?_
        refine awp_region ?_
        refine st_p (fun _ => by exact y_move (.plain rfl)) rfl ?_
        refine st_p (fun _ => by exact y_move (.plain rfl)) rfl ?_
        refine st_p (fun _ => by exact y_move (.plain rfl)) rfl ?_
        refine st_p (fun _ => by exact y_indexArr (.imp (.plain rfl) AV.Imp.vec_arr) (.plain rfl) rfl (by omega)) rfl ?_
        refine st_s (fun _ => by exact y_vstore (by rfl) rfl (.plain rfl) (.plain rfl) (by first | exact .here | exact u1 | exact u2 | exact u3 | exact u4 | exact u5 | exact u6 | exact u7 | exact u8 | exact u9 | exact u10 | exact u11 | exact u12 | exact u13) (by simp only [List.length_map, Sv.mid_len, List.length_cons, List.length_nil]; omega)) ?_
        refine aops_nil ?_
        refine awp_region ?_
        refine st_p (fun _ => by exact y_move (.plain rfl)) rfl ?_
        refine st_p (fun _ => by exact y_add (.plain rfl) (.plain rfl) (by first | omega | (simp; omega) | (simp at hc; omega) | (simp at hc ⊢; omega) | (simp; done))) rfl ?_
        refine st_p (fun _ => by exact y_assign (.plain rfl)) rfl ?_
        refine aops_nil ?_
        refine awp_region ?_
        refine st_p (fun _ => by exact y_move (.plain rfl)) rfl ?_
        refine st_p (fun _ => by exact y_add (.plain rfl) (.plain rfl) (by first | omega | (simp; omega) | (simp at hc; omega) | (simp at hc ⊢; omega) | (simp; done))) rfl ?_
        refine st_p (fun _ => by exact y_assign (.plain rfl)) rfl ?_
        refine aops_nil ?_
        refine ⟨k + 1, ⟨by omega, trivial⟩, by omega, ?_⟩
        have hp : (fun t : Int => decide (t ≤ now - q.window)) l[k] = false := decide_eq_false (by simpa using h3)
        rw [show ∀ e : Nat, 0 + e * 1 = e by omega, Sv.mid_set _ l k h2 hp]
        exact Weak.of2 (by (repeat (first | exact .nil _ | refine .cons rfl (by first | exact AV.Imp.refl _ | exact AV.Imp.int_of (by rw [Sv.kept_f _ l k h2 hp, List.length_append]; simp) | exact AV.Imp.int_of (by push_cast; omega) | exact Sl.imp | exact AV.Imp.agg RowOf.imp | exact AV.Imp.grow_sl | exact AV.Imp.nil_grow | exact AV.Imp.full_grow | exact AV.Imp.own_grow | exact AV.Imp.grow_of rfl | exact AV.Imp.sl_of rfl | exact AV.Imp.int_of (by omega) | exact AV.Imp.of_eq (by first | omega | simpa)) ?_)); done) (by (repeat (first | exact .refl _ | exact .nil _ | apply ItLe2.cons (by first | exact .here | exact k1 | exact k2 | exact k3 | exact k4 | exact k5 | exact k6 | exact k7 | exact k8 | exact k9 | exact k10 | exact k11 | exact k12 | exact k13) | apply ItLe2.cells (by first | exact .here | exact k1 | exact k2 | exact k3 | exact k4 | exact k5 | exact k6 | exact k7 | exact k8 | exact k9 | exact k10 | exact k11 | exact k12 | exact k13) (by repeat (first | exact .nil | refine .cons (by first | exact AV.Imp.refl _ | exact Sl.imp | exact AV.Imp.agg RowOf.imp | exact AV.Imp.grow_sl | exact AV.Imp.nil_grow | exact AV.Imp.full_grow | exact AV.Imp.own_grow | exact AV.Imp.grow_of rfl | exact AV.Imp.sl_of rfl | exact AV.Imp.int_of (by omega) | exact AV.Imp.of_eq (by first | omega | simpa)) ?_)) | apply ItLe2.tail0)); done)
      · skip
        try simp only [decide_eq_true_eq, decide_eq_false_iff_not, Bool.not_eq_true', Bool.not_eq_false', Bool.not_eq_true, Bool.not_eq_false, List.length_map, Int.ofNat_lt, Int.ofNat_le, Bool.or_eq_true, Bool.and_eq_true, Bool.or_eq_false_iff, Bool.and_eq_false_iff] at h3
        refine awp_skip ?_
        refine awp_region ?_
        refine st_p (fun _ => by exact y_move (.plain rfl)) rfl ?_
        refine st_p (fun _ => by exact y_add (.plain rfl) (.plain rfl) (by first | omega | (simp; omega) | (simp at hc; omega) | (simp at hc ⊢; omega) | (simp; done))) rfl ?_
        refine st_p (fun _ => by exact y_assign (.plain rfl)) rfl ?_
        refine aops_nil ?_
        refine ⟨k + 1, ⟨by omega, trivial⟩, by omega, ?_⟩
        have hp : (fun t : Int => decide (t ≤ now - q.window)) l[k] = true := decide_eq_true (by simpa using h3)
        rw [Sv.mid_t _ l k h2 hp, Sv.kept_t _ l k h2 hp]
        exact Weak.of2 (by (repeat (first | exact .nil _ | refine .cons rfl (by first | exact AV.Imp.refl _ | exact AV.Imp.int_of (by push_cast; omega) | exact Sl.imp | exact AV.Imp.agg RowOf.imp | exact AV.Imp.grow_sl | exact AV.Imp.nil_grow | exact AV.Imp.full_grow | exact AV.Imp.own_grow | exact AV.Imp.grow_of rfl | exact AV.Imp.sl_of rfl | exact AV.Imp.int_of (by omega) | exact AV.Imp.of_eq (by first | omega | simpa)) ?_)); done) (by (repeat (first | exact .refl _ | exact .nil _ | apply ItLe2.cons (by first | exact .here | exact k1 | exact k2 | exact k3 | exact k4 | exact k5 | exact k6 | exact k7 | exact k8 | exact k9 | exact k10 | exact k11 | exact k12 | exact k13) | apply ItLe2.cells (by first | exact .here | exact k1 | exact k2 | exact k3 | exact k4 | exact k5 | exact k6 | exact k7 | exact k8 | exact k9 | exact k10 | exact k11 | exact k12 | exact k13) (by repeat (first | exact .nil | refine .cons (by first | exact AV.Imp.refl _ | exact Sl.imp | exact AV.Imp.agg RowOf.imp | exact AV.Imp.grow_sl | exact AV.Imp.nil_grow | exact AV.Imp.full_grow | exact AV.Imp.own_grow | exact AV.Imp.grow_of rfl | exact AV.Imp.sl_of rfl | exact AV.Imp.int_of (by omega) | exact AV.Imp.of_eq (by first | omega | simpa)) ?_)) | apply ItLe2.tail0)); done)
    · skip
      try simp only [decide_eq_true_eq, decide_eq_false_iff_not, Bool.not_eq_true', Bool.not_eq_false', Bool.not_eq_true, Bool.not_eq_false, List.length_map, Int.ofNat_lt, Int.ofNat_le, Bool.or_eq_true, Bool.and_eq_true, Bool.or_eq_false_iff, Bool.and_eq_false_iff] at h2
      refine awp_exit ?_
      refine awp_seq ?_
      refine awp_region ?_
      refine st_p (fun _ => by exact y_move (.plain rfl)) rfl ?_
      refine st_p (fun _ => by exact y_move (.plain rfl)) rfl ?_
      refine st_p (fun _ => by exact y_vsliceLo (.plain rfl) (.plain rfl) rfl (by omega)) rfl ?_
      refine st_s (fun _ => by exact y_vclear (by rfl) (by rfl) (.plain rfl) (by first | exact .here | exact u1 | exact u2 | exact u3 | exact u4 | exact u5 | exact u6 | exact u7 | exact u8 | exact u9 | exact u10 | exact u11 | exact u12 | exact u13) (by rw [List.length_map, Sv.mid_len]; omega)) ?_
      refine aops_nil ?_
      refine awp_seq ?_
      refine awp_region ?_
      refine st_p (fun _ => by exact y_move (.plain rfl)) rfl ?_
      refine st_p (fun _ => by exact y_move (.plain rfl)) rfl ?_
      refine st_p (fun _ => by exact y_vsliceHi (.plain rfl) (.plain rfl) rfl (by omega)) rfl ?_
      refine st_p (fun _ => by exact y_assign (.plain rfl)) rfl ?_
      refine aops_nil ?_
      refine awp_ret ?_
      obtain rfl : k = l.length := by omega
      have hr : Sv.recent q l now = Sv.kept (fun t : Int => decide (t ≤ now - q.window)) l l.length := (Sv.kept_all _ l).symm
      rw [hr]
      exact retG (.inr rfl) (.cons (.tmp rfl) .nil) VShift.refl ⟨rfl, by rw [← List.map_take, Nat.mul_one, Sv.mid_take]⟩

theorem recent_c (q : Sv.Spc) (l : List Int) (now : Int) (hl : l.length ≤ 1000000) (hn : 0 ≤ now ∧ now ≤ 1099511627776) (hw : 0 ≤ q.window ∧ q.window ≤ 1099511627776) : ACalls Try.prog 38 [.agg (encSp q), .sl 1 (l.map encI), .int now] [] (fun v st => ∃ t, (l = [] ↔ t = none) ∧ v = .vec 1 t (Sv.recent q l now).length ∧ st = [.vec t ((Sv.recent q l now).map AV.int)]) := by
  refine acalls_body Try.func38 (by kernel_rfl) rfl Try.ntmps38 (le_ rfl) ?_
  rw [Try.results38]
  refine awp_seq ?_
  refine awp_region ?_
  refine st_n (fun _ => by exact y_box (.plain rfl)) rfl fun n1 => ?_
  refine st_n (fun _ => by exact y_box (.plain rfl)) rfl fun n2 => ?_
  refine st_p (fun _ => by exact y_assign (.plain rfl)) rfl ?_
  refine aops_nil ?_
  refine awp_seq ?_
  refine awp_region ?_
  refine st_p (fun _ => by exact y_move (.plain rfl)) rfl ?_
  refine aops_call (blt_lt rfl) (.plain rfl) (.cons (.plain rfl) .nil) (ACalls.updP (its := []) (.nil _) (cloneV_c l hl) ?_)
  rintro v st ⟨t, htn, rfl, rfl⟩
  refine st_p (fun _ => by exact y_makeFunc (.cons (.plain rfl) (.cons (.plain rfl) .nil))) rfl ?_
  refine aops_call (blt_lt rfl) (.plain rfl) (.cons (.plain rfl) (.cons (.plain rfl) .nil)) (ACalls.upd (its := [.vec t _, .cells n2 _, .cells n1 _]) (by apply Takes.cons (by first | exact .here | exact k1 | exact k2 | exact k3 | exact k4 | exact k5 | exact k6 | exact k7 | exact k8 | exact k9 | exact k10 | exact k11 | exact k12 | exact k13); apply Takes.cons (by first | exact .here | exact k1 | exact k2 | exact k3 | exact k4 | exact k5 | exact k6 | exact k7 | exact k8 | exact k9 | exact k10 | exact k11 | exact k12 | exact k13); apply Takes.cons (by first | exact .here | exact k1 | exact k2 | exact k3 | exact k4 | exact k5 | exact k6 | exact k7 | exact k8 | exact k9 | exact k10 | exact k11 | exact k12 | exact k13); exact .nil _) (deleteFV_c t l hl n2 n1 now q hn hw) ?_)
  refine st_p (fun _ => by exact y_assign (.plain rfl)) rfl ?_
  refine aops_nil ?_
  refine awp_ret ?_
  exact retG (.inr rfl) (.cons (.tmp rfl) .nil) (VShift.of2 (AV.Imp.refl _) (by (repeat (first | exact .refl _ | exact .nil _ | apply ItLe2.cons (by first | exact .here | exact k1 | exact k2 | exact k3 | exact k4 | exact k5 | exact k6 | exact k7 | exact k8 | exact k9 | exact k10 | exact k11 | exact k12 | exact k13) | apply ItLe2.cells (by first | exact .here | exact k1 | exact k2 | exact k3 | exact k4 | exact k5 | exact k6 | exact k7 | exact k8 | exact k9 | exact k10 | exact k11 | exact k12 | exact k13) (by repeat (first | exact .nil | refine .cons (by first | exact AV.Imp.refl _ | exact Sl.imp | exact AV.Imp.agg RowOf.imp | exact AV.Imp.grow_sl | exact AV.Imp.nil_grow | exact AV.Imp.full_grow | exact AV.Imp.own_grow | exact AV.Imp.grow_of rfl | exact AV.Imp.sl_of rfl | exact AV.Imp.int_of (by omega) | exact AV.Imp.of_eq (by first | omega | simpa)) ?_)) | apply ItLe2.tail0)); done)) ⟨t, htn, rfl, rfl⟩

theorem recent0_c (q : Sv.Spc) (l : List Int) (hl : l = []) (now : Int) (hn : 0 ≤ now ∧ now ≤ 1099511627776) (hw : 0 ≤ q.window ∧ q.window ≤ 1099511627776) : ACalls Try.prog 38 [.agg (encSp q), .sl 1 (l.map encI), .int now] [] (fun v st => v = .vec 1 none 0 ∧ st = []) := by
  subst hl
  exact (recent_c q [] now (by decide) hn hw).shift fun v st ⟨t, ht, h1, h2⟩ => ⟨.vec 1 none 0, [], by rw [ht.1 rfl] at h1; rw [h1]; exact VShift.of (AV.Imp.refl _) (.nil _), rfl, rfl⟩
theorem recent1_c (q : Sv.Spc) (l : List Int) (hl0 : l ≠ []) (now : Int) (hl : l.length ≤ 1000000) (hn : 0 ≤ now ∧ now ≤ 1099511627776) (hw : 0 ≤ q.window ∧ q.window ≤ 1099511627776) : ACalls Try.prog 38 [.agg (encSp q), .sl 1 (l.map encI), .int now] [] (fun v st => ∃ j, v = .vec 1 (some j) (Sv.recent q l now).length ∧ st = [.vec (some j) ((Sv.recent q l now).map AV.int)]) :=
  (recent_c q l now hl hn hw).mono fun v st ⟨t, ht, h1, h2⟩ => by
    cases t with
    | none => exact absurd (ht.2 rfl) hl0
    | some j => exact ⟨j, h1, h2⟩

end Go.Proofs
