/- Distances. -/
import Derived.Test.YtkaiilhpjmjnkaaI03
set_option linter.unusedVariables false
set_option linter.unusedSimpArgs false
set_option maxRecDepth 10000
namespace Go.Proofs
open Go.Aw Wl Dg
theorem mul64_c (a b : Nat) (ha : a < 65536) (hb : b < 65536) : ACalls Try.prog 61 [(AV.val (.int .u64 (a : Int))), (AV.val (.int .u64 (b : Int)))] [] (fun v st => v = .tup [AV.val (.int .u64 0), (AV.val (.int .u64 ((a * b : Nat) : Int)))] ∧ st = []) := by
  refine acalls_body Try.func61 (by kernel_rfl) rfl Try.ntmps61 (le_ rfl) ?_
  rw [Try.results61]
  have hab : 0 ≤ (a : Int) * (b : Int) ∧ (a : Int) * (b : Int) < 4294967296 := by
      have h1 : a * b ≤ 65535 * 65535 := Nat.mul_le_mul (by omega) (by omega)
      have h2 : (a : Int) * (b : Int) = ((a * b : Nat) : Int) := (Int.natCast_mul a b).symm
      rw [h2]; omega
  refine awp_seq ?_
  refine awp_region ?_
  refine st_p (fun _ => by exact y_assign (.plain rfl)) rfl ?_
  refine st_p (fun _ => by exact y_assign (.plain rfl)) rfl ?_
  refine aops_nil ?_
  refine awp_seq ?_
  refine awp_region ?_
  refine st_p (fun _ => by exact y_move (.plain rfl)) rfl ?_
  refine st_p (fun _ => by exact y_andMask (.plain rfl) (.plain rfl) (by omega)) rfl ?_
  refine st_p (fun _ => by exact y_assign (.plain rfl)) rfl ?_
  refine aops_nil ?_
  refine awp_seq ?_
  refine awp_region ?_
  refine st_p (fun _ => by exact y_move (.plain rfl)) rfl ?_
  refine st_p (fun _ => by exact y_shrSmall (.plain rfl) (.plain rfl) (by omega)) rfl ?_
  refine st_p (fun _ => by exact y_assign (.plain rfl)) rfl ?_
  refine aops_nil ?_
  refine awp_seq ?_
  refine awp_region ?_
  refine st_p (fun _ => by exact y_move (.plain rfl)) rfl ?_
  refine st_p (fun _ => by exact y_andMask (.plain rfl) (.plain rfl) (by omega)) rfl ?_
  refine st_p (fun _ => by exact y_assign (.plain rfl)) rfl ?_
  refine aops_nil ?_
  refine awp_seq ?_
  refine awp_region ?_
  refine st_p (fun _ => by exact y_move (.plain rfl)) rfl ?_
  refine st_p (fun _ => by exact y_shrSmall (.plain rfl) (.plain rfl) (by omega)) rfl ?_
  refine st_p (fun _ => by exact y_assign (.plain rfl)) rfl ?_
  refine aops_nil ?_
  refine awp_seq ?_
  refine awp_region ?_
  refine st_p (fun _ => by exact y_move (.plain rfl)) rfl ?_
  refine st_p (fun _ => by exact y_move (.plain rfl)) rfl ?_
  refine st_p (fun _ => by exact y_mulU (.plain rfl) (.plain rfl) hab) rfl ?_
  refine st_p (fun _ => by exact y_assign (.plain rfl)) rfl ?_
  refine aops_nil ?_
  refine awp_seq ?_
  refine awp_region ?_
  refine st_p (fun _ => by exact y_move (.plain rfl)) rfl ?_
  refine st_p (fun _ => by exact y_move (.plain rfl)) rfl ?_
  refine st_p (fun _ => by exact y_mulU (.plain rfl) (.plain rfl) (by simp)) rfl ?_
  refine st_p (fun _ => by exact y_move (.plain rfl)) rfl ?_
  refine st_p (fun _ => by exact y_shrSmall (.plain rfl) (.plain rfl) hab) rfl ?_
  refine st_p (fun _ => by exact y_addU (.plain rfl) (.plain rfl) (by simp)) rfl ?_
  refine st_p (fun _ => by exact y_assign (.plain rfl)) rfl ?_
  refine aops_nil ?_
  refine awp_seq ?_
  refine awp_region ?_
  refine st_p (fun _ => by exact y_move (.plain rfl)) rfl ?_
  refine st_p (fun _ => by exact y_andMask (.plain rfl) (.plain rfl) (by simp)) rfl ?_
  refine st_p (fun _ => by exact y_assign (.plain rfl)) rfl ?_
  refine aops_nil ?_
  refine awp_seq ?_
  refine awp_region ?_
  refine st_p (fun _ => by exact y_move (.plain rfl)) rfl ?_
  refine st_p (fun _ => by exact y_shrSmall (.plain rfl) (.plain rfl) (by simp)) rfl ?_
  refine st_p (fun _ => by exact y_assign (.plain rfl)) rfl ?_
  refine aops_nil ?_
  refine awp_seq ?_
  refine awp_region ?_
  refine st_p (fun _ => by exact y_move (.plain rfl)) rfl ?_
  refine st_p (fun _ => by exact y_move (.plain rfl)) rfl ?_
  refine st_p (fun _ => by exact y_move (.plain rfl)) rfl ?_
  refine st_p (fun _ => by exact y_mulU (.plain rfl) (.plain rfl) (by simp)) rfl ?_
  refine st_p (fun _ => by exact y_addU (.plain rfl) (.plain rfl) (by simp)) rfl ?_
  refine st_p (fun _ => by exact y_assign (.plain rfl)) rfl ?_
  refine aops_nil ?_
  refine awp_seq ?_
  refine awp_region ?_
  refine st_p (fun _ => by exact y_move (.plain rfl)) rfl ?_
  refine st_p (fun _ => by exact y_move (.plain rfl)) rfl ?_
  refine st_p (fun _ => by exact y_mulU (.plain rfl) (.plain rfl) (by simp)) rfl ?_
  refine st_p (fun _ => by exact y_move (.plain rfl)) rfl ?_
  refine st_p (fun _ => by exact y_addU (.plain rfl) (.plain rfl) (by simp)) rfl ?_
  refine st_p (fun _ => by exact y_move (.plain rfl)) rfl ?_
  refine st_p (fun _ => by exact y_shrSmall (.plain rfl) (.plain rfl) (by simp)) rfl ?_
  refine st_p (fun _ => by exact y_addU (.plain rfl) (.plain rfl) (by simp)) rfl ?_
  refine st_p (fun _ => by exact y_assign (.plain rfl)) rfl ?_
  refine aops_nil ?_
  refine awp_seq ?_
  refine awp_region ?_
  refine st_p (fun _ => by exact y_move (.plain rfl)) rfl ?_
  refine st_p (fun _ => by exact y_move (.plain rfl)) rfl ?_
  refine st_p (fun _ => by exact y_mulU (.plain rfl) (.plain rfl) hab) rfl ?_
  refine st_p (fun _ => by exact y_assign (.plain rfl)) rfl ?_
  refine aops_nil ?_
  refine awp_ret ?_
  exact retG (.inr rfl) (.cons (.tmp rfl) (.cons (.tmp rfl) .nil)) (VShift.of2 (AV.Imp.tup (.cons (AV.Imp.of_eq (by simp)) (.cons (AV.Imp.of_eq (by simp)) .nil))) (.nil _)) ⟨rfl, rfl⟩

theorem mul_c (a b : Nat) (ha : a < 65536) (hb : b < 65536) : ACalls Try.prog 59 [(AV.val (.int .u64 (a : Int))), (AV.val (.int .u64 (b : Int)))] [] (fun v st => v = .tup [AV.val (.int .u64 0), (AV.val (.int .u64 ((a * b : Nat) : Int)))] ∧ st = []) := by
  refine acalls_body Try.func59 (by kernel_rfl) rfl Try.ntmps59 (le_ rfl) ?_
  rw [Try.results59]
  have hab : a * b ≤ 65535 * 65535 := Nat.mul_le_mul (by omega) (by omega)
  refine awp_seq ?_
  refine awp_region ?_
  refine st_p (fun _ => by exact y_assign (.plain rfl)) rfl ?_
  refine st_p (fun _ => by exact y_assign (.plain rfl)) rfl ?_
  refine aops_nil ?_
  refine awp_seq ?_
  refine awp_cond rfl (fun h1 => ?_) (fun h1 => ?_)
  · skip
    cases h1
  · skip
    try simp only [decide_eq_true_eq, decide_eq_false_iff_not, Bool.not_eq_true', Bool.not_eq_false', Bool.not_eq_true, Bool.not_eq_false, List.length_map, Int.ofNat_lt, Int.ofNat_le, Bool.or_eq_true, Bool.and_eq_true, Bool.or_eq_false_iff, Bool.and_eq_false_iff] at h1
    refine awp_skip ?_
    refine awp_seq ?_
    refine awp_region ?_
    refine st_p (fun _ => by exact y_move (.plain rfl)) rfl ?_
    refine st_p (fun _ => by exact y_move (.plain rfl)) rfl ?_
    refine aops_call (blt_lt rfl) (.plain rfl) (.cons (.plain rfl) (.cons (.plain rfl) .nil)) (ACalls.here (mul64_c a b ha hb) ?_)
    refine st_p (fun _ => by exact y_move (.plain rfl)) rfl ?_
    refine st_p (fun _ => by exact y_extract (.plain rfl) rfl) rfl ?_
    refine st_p (fun _ => by exact y_extract (.plain rfl) rfl) rfl ?_
    refine st_p (fun _ => by exact y_assign (.plain rfl)) rfl ?_
    refine st_p (fun _ => by exact y_assign (.plain rfl)) rfl ?_
    refine aops_nil ?_
    refine awp_seq ?_
    refine awp_region ?_
    refine st_p (fun _ => by exact y_move (.plain rfl)) rfl ?_
    refine st_p (fun _ => by exact y_move (.plain rfl)) rfl ?_
    refine st_p (fun _ => by exact y_assign (.plain rfl)) rfl ?_
    refine st_p (fun _ => by exact y_assign (.plain rfl)) rfl ?_
    refine aops_nil ?_
    refine awp_ret ?_
    exact retG (.inr rfl) (.cons (.tmp rfl) (.cons (.tmp rfl) .nil)) VShift.drop ⟨rfl, rfl⟩

theorem repI_c (c : Int) (n : Nat) (hn : n ≤ 60000) : ACalls Try.prog 58 [(AV.sl 1 (List.map encI ([c]))), .int (n : Int)] [] (fun v st => ∃ j, v = .arr j 0 n ∧ st = [.cells j (List.replicate n (encI c)).flatten]) := by
  refine acalls_body Try.func58 (by kernel_rfl) rfl Try.ntmps58 (le_ rfl) ?_
  rw [Try.results58]
  refine awp_seq ?_
  refine awp_region ?_
  refine st_p (fun _ => by exact y_assign (.plain rfl)) rfl ?_
  refine aops_nil ?_
  refine awp_seq ?_
  refine awp_seq ?_
  refine awp_region ?_
  refine st_p (fun _ => by exact y_move (.plain rfl)) rfl ?_
  refine st_p (fun _ => by exact y_lss (.plain rfl) (.plain rfl)) rfl ?_
  refine aops_nil ?_
  refine awp_cond rfl (fun h1 => ?_) (fun h1 => ?_)
  · skip
    exfalso
    simp at h1
    omega
  · skip
    try simp only [decide_eq_true_eq, decide_eq_false_iff_not, Bool.not_eq_true', Bool.not_eq_false', Bool.not_eq_true, Bool.not_eq_false, List.length_map, Int.ofNat_lt, Int.ofNat_le, Bool.or_eq_true, Bool.and_eq_true, Bool.or_eq_false_iff, Bool.and_eq_false_iff] at h1
    refine awp_skip ?_
    refine awp_seq ?_
    refine awp_region ?_
    refine st_p (fun _ => by exact y_move (.plain rfl)) rfl ?_
    first | refine st_p (fun _ => by exact y_lenN (.plain rfl)) rfl ?_ | refine st_p (fun _ => by exact y_len (.plain rfl)) rfl ?_ | refine st_p (fun _ => by exact y_lenArr (.plain rfl)) rfl ?_
    refine st_p (fun _ => by exact y_convertN (k := .i64) (a := ((1 : Nat) : Int)) (by rfl) (by rfl) (.imp (.plain rfl) (AV.Imp.of_eq rfl)) (by rw [IntKind.wrap_u64]; omega)) rfl ?_
    refine st_p (fun _ => by exact y_move (.plain rfl)) rfl ?_
    refine st_p (fun _ => by exact y_convertN (by rfl) (by rfl) (.plain rfl) (by rw [IntKind.wrap_u64]; omega)) rfl ?_
    refine aops_call (blt_lt rfl) (.plain rfl) (.cons (.plain rfl) (.cons (.plain rfl) .nil)) (ACalls.here (mul_c 1 n (by omega) (by omega)) ?_)
    refine st_p (fun _ => by exact y_move (.plain rfl)) rfl ?_
    refine st_p (fun _ => by exact y_extract (.plain rfl) rfl) rfl ?_
    refine st_p (fun _ => by exact y_extract (.plain rfl) rfl) rfl ?_
    refine st_p (fun _ => by exact y_assign (.plain rfl)) rfl ?_
    refine st_p (fun _ => by exact y_assign (.plain rfl)) rfl ?_
    refine aops_nil ?_
    refine awp_seq ?_
    refine awp_seq ?_
    refine awp_region ?_
    refine st_p (fun _ => by exact y_move (.plain rfl)) rfl ?_
    refine st_p (fun _ => by exact y_gtr (.plain rfl) (.plain rfl)) rfl ?_
    refine st_p (fun _ => by exact y_move (.plain rfl)) rfl ?_
    refine st_g rfl rfl rfl SaysI.out (fun hc _ => by exact y_move (.plain rfl)) rfl ?_
    refine st_g rfl rfl rfl SaysI.out (fun hc _ => by exact y_gtr (.opt rfl hc) (.plain rfl)) rfl ?_
    refine st_p (fun _ => by exact y_or (.plain rfl) rfl rfl) rfl ?_
    refine aops_nil ?_
    refine awp_cond rfl (fun h2 => ?_) (fun h2 => ?_)
    · skip
      exfalso
      simp at h2
      omega
    · skip
      try simp only [decide_eq_true_eq, decide_eq_false_iff_not, Bool.not_eq_true', Bool.not_eq_false', Bool.not_eq_true, Bool.not_eq_false, List.length_map, Int.ofNat_lt, Int.ofNat_le, Bool.or_eq_true, Bool.and_eq_true, Bool.or_eq_false_iff, Bool.and_eq_false_iff] at h2
      refine awp_skip ?_
      refine awp_seq ?_
      refine awp_region ?_
      refine st_p (fun _ => by exact y_move (.plain rfl)) rfl ?_
      refine st_p (fun _ => by exact y_convertN (by rfl) (by rfl) (.plain rfl) (by rw [IntKind.wrap_i64]; omega)) rfl ?_
      refine st_n (fun _ => by exact y_makeArr (n := n) (by rfl) (.plain rfl) (.plain rfl) (by omega) (by omega)) rfl fun n1 => ?_
      refine st_p (fun _ => by exact y_assign (.plain rfl)) rfl ?_
      refine aops_nil ?_
      refine awp_seq ?_
      refine awp_region ?_
      refine st_p (fun _ => by exact y_move (.plain rfl)) rfl ?_
      refine st_p (fun _ => by exact y_move (.plain rfl)) rfl ?_
      refine st_w (fun _ => by exact y_copy (m := min 1 n) (.plain rfl) (.plain rfl) (by simp) .here (by rw [rep_len]; simp; first | exact Nat.mul_le_mul_right _ (by omega) | omega)) rfl ?_
      refine st_p (fun _ => by exact y_assign (.plain rfl)) rfl ?_
      refine aops_nil ?_
      refine awp_items (st' := [.cells n1 ((List.replicate (min 1 n) (encI c)).flatten ++ (List.replicate (n - min 1 n) ([AV.val (.int .i64 0)])).flatten)]) (congrArg (fun z => [Aw.Item.cells n1 z]) (rep_first n (encI c) [AV.val (.int .i64 0)] rfl)) ?_
      refine awp_seq ?_
      refine awp_block ?_
      refine awp_loop2 (X := Nat) [7] (.cons rfl .nil) (fun σ x => ((8, .int (x : Int)) : Nat × AV) :: σ) (fun R x => .cells n1 ((List.replicate x (encI c)).flatten ++ (List.replicate (n - x) ([AV.val (.int .i64 0)])).flatten) :: R) (fun x => x ≤ n ∧ (n ≠ 0 → x ≠ 0)) (fun x => n - x) (min 1 n) (by exact Weak.of2 (by (repeat (first | exact .nil _ | refine .cons rfl (by first | exact AV.Imp.refl _ | exact Sl.imp | exact AV.Imp.agg RowOf.imp | exact AV.Imp.grow_sl | exact AV.Imp.nil_grow | exact AV.Imp.full_grow | exact AV.Imp.own_grow | exact AV.Imp.grow_of rfl | exact AV.Imp.sl_of rfl | exact AV.Imp.int_of (by omega) | exact AV.Imp.of_eq (by first | omega | simpa)) ?_)); done) (by (repeat (first | exact .refl _ | exact .nil _ | apply ItLe2.cons (by first | exact .here | exact k1 | exact k2 | exact k3 | exact k4 | exact k5 | exact k6 | exact k7 | exact k8 | exact k9 | exact k10 | exact k11 | exact k12 | exact k13) | apply ItLe2.cells (by first | exact .here | exact k1 | exact k2 | exact k3 | exact k4 | exact k5 | exact k6 | exact k7 | exact k8 | exact k9 | exact k10 | exact k11 | exact k12 | exact k13) (by repeat (first | exact .nil | refine .cons (by first | exact AV.Imp.refl _ | exact Sl.imp | exact AV.Imp.agg RowOf.imp | exact AV.Imp.grow_sl | exact AV.Imp.nil_grow | exact AV.Imp.full_grow | exact AV.Imp.own_grow | exact AV.Imp.grow_of rfl | exact AV.Imp.sl_of rfl | exact AV.Imp.int_of (by omega) | exact AV.Imp.of_eq (by first | omega | simpa)) ?_)) | apply ItLe2.tail0)); done)) (by omega) ?_
      rintro k ⟨hk, hk0⟩
      refine awp_seq ?_
      refine awp_seq ?_
      refine awp_region ?_
      refine st_p (fun _ => by exact y_move (.plain rfl)) rfl ?_
      refine st_p (fun _ => by exact y_move (.plain rfl)) rfl ?_
      first | refine st_p (fun _ => by exact y_lenN (.plain rfl)) rfl ?_ | refine st_p (fun _ => by exact y_len (.plain rfl)) rfl ?_ | refine st_p (fun _ => by exact y_lenArr (.plain rfl)) rfl ?_
      refine st_p (fun _ => by exact y_lss (.plain rfl) (.plain rfl)) rfl ?_
      refine aops_nil ?_
      refine awp_cond rfl (fun h3 => ?_) (fun h3 => ?_)
      · skip
        try simp only [decide_eq_true_eq, decide_eq_false_iff_not, Bool.not_eq_true', Bool.not_eq_false', Bool.not_eq_true, Bool.not_eq_false, List.length_map, Int.ofNat_lt, Int.ofNat_le, Bool.or_eq_true, Bool.and_eq_true, Bool.or_eq_false_iff, Bool.and_eq_false_iff] at h3
        refine awp_skip ?_
        refine awp_block ?_
        have hkn : min k (n - k) ≤ n - k := by omega
        have hfit : 0 + k * 1 + min k (n - k) * 1 ≤ k * (encI c).length + (n - k) * 1 := by show _ ≤ k * 1 + _; omega
        have hfit2 : 0 + min k (n - k) * 1 ≤ k * (encI c).length + (n - k) * 1 := by show _ ≤ k * 1 + _; omega
        refine awp_anyT (ks := [.free, .free, .free, .free, .free, .free, .free, .write, .free, .free]) [.cells n1 _] (by apply Takes.cons (by first | exact .here | exact k1 | exact k2 | exact k3 | exact k4 | exact k5 | exact k6 | exact k7 | exact k8 | exact k9 | exact k10 | exact k11 | exact k12 | exact k13); exact .nil _) (by kernel_rfl) (fun K => ?_) ?_
        · skip
          refine dr_p (fun _ => by exact y_move (.plain rfl)) rfl ?_
          refine dr_p (fun _ => by exact y_move (.plain rfl)) rfl ?_
          refine dr_p (fun _ => by exact y_move (.plain rfl)) rfl ?_
          refine dr_p (fun _ => by exact y_sliceArrLo (.plain rfl) (.plain rfl) rfl (by omega)) rfl ?_
          refine dr_p (fun _ => by exact y_move (.plain rfl)) rfl ?_
          refine dr_p (fun _ => by exact y_move (.plain rfl)) rfl ?_
          refine dr_p (fun _ => by exact y_sliceArrHi (.plain rfl) (.plain rfl) rfl (by omega)) rfl ?_
          refine dr_w (fun _ => by exact y_copySelf (m := min k (n - k)) (.plain rfl) (.plain rfl) (by omega) .here (by rw [List.length_append, rep_len, rep_len]; exact hfit) (by rw [List.length_append, rep_len, rep_len]; exact hfit2)) rfl ?_
          refine dr_p (fun _ => by exact y_add (.plain rfl) (.plain rfl) (by omega)) rfl ?_
          refine dr_p (fun _ => by exact y_assign (.plain rfl)) rfl ?_
          refine dr_nil ?_
          have hcp : setMany ((List.replicate k (encI c)).flatten ++ (List.replicate (n - k) ([AV.val (.int .i64 0)])).flatten) (0 + k * 1) ((((List.replicate k (encI c)).flatten ++ (List.replicate (n - k) ([AV.val (.int .i64 0)])).flatten).drop 0).take (min k (n - k) * 1)) = ((List.replicate (k + min k (n - k)) (encI c)).flatten ++ (List.replicate (n - (k + min k (n - k))) ([AV.val (.int .i64 0)])).flatten) := by
            rw [List.drop_zero, Nat.sub_add_eq]
            exact (congrArg (setMany _ _) (rep_take k (min k (n - k)) (encI c) _ (by omega))).trans (rep_copy k (n - k) (min k (n - k)) (encI c) [AV.val (.int .i64 0)] rfl (by omega))
          refine ⟨k + min k (n - k), by omega, by omega, ?_⟩
          rw [← hcp]
          exact Weak.of2 (by (repeat (first | exact .nil _ | refine .cons rfl (by first | exact AV.Imp.refl _ | exact Sl.imp | exact AV.Imp.agg RowOf.imp | exact AV.Imp.grow_sl | exact AV.Imp.nil_grow | exact AV.Imp.full_grow | exact AV.Imp.own_grow | exact AV.Imp.grow_of rfl | exact AV.Imp.sl_of rfl | exact AV.Imp.int_of (by omega) | exact AV.Imp.of_eq (by first | omega | simpa)) ?_)); done) (by (repeat (first | exact .refl _ | exact .nil _ | apply ItLe2.cons (by first | exact .here | exact k1 | exact k2 | exact k3 | exact k4 | exact k5 | exact k6 | exact k7 | exact k8 | exact k9 | exact k10 | exact k11 | exact k12 | exact k13) | apply ItLe2.cells (by first | exact .here | exact k1 | exact k2 | exact k3 | exact k4 | exact k5 | exact k6 | exact k7 | exact k8 | exact k9 | exact k10 | exact k11 | exact k12 | exact k13) (by repeat (first | exact .nil | refine .cons (by first | exact AV.Imp.refl _ | exact Sl.imp | exact AV.Imp.agg RowOf.imp | exact AV.Imp.grow_sl | exact AV.Imp.nil_grow | exact AV.Imp.full_grow | exact AV.Imp.own_grow | exact AV.Imp.grow_of rfl | exact AV.Imp.sl_of rfl | exact AV.Imp.int_of (by omega) | exact AV.Imp.of_eq (by first | omega | simpa)) ?_)) | apply ItLe2.tail0)); done)
        · kernel_rfl
      · skip
        try simp only [decide_eq_true_eq, decide_eq_false_iff_not, Bool.not_eq_true', Bool.not_eq_false', Bool.not_eq_true, Bool.not_eq_false, List.length_map, Int.ofNat_lt, Int.ofNat_le, Bool.or_eq_true, Bool.and_eq_true, Bool.or_eq_false_iff, Bool.and_eq_false_iff] at h3
        refine awp_exit ?_
        refine awp_seq ?_
        obtain rfl : n = k := by omega
        refine awp_region ?_
        refine st_p (fun _ => by exact y_move (.plain rfl)) rfl ?_
        refine st_p (fun _ => by exact y_assign (.plain rfl)) rfl ?_
        refine aops_nil ?_
        refine awp_ret ?_
        exact retG (.inr rfl) (.cons (.tmp rfl) .nil) (VShift.of2 (AV.Imp.refl _) (.cells .here (by rw [Nat.sub_self, List.replicate_zero, List.flatten_nil, List.append_nil]; exact ImpL.refl _) (.nil _))) ⟨n1, rfl, rfl⟩

theorem dist_c (g : Dg.Gr) (t : Int) (hg : Dg.OkG g) (ht : 0 ≤ t ∧ t < g.n) : ACalls Try.prog 54 [(AV.agg (encG g)), (AV.int t)] [] (fun v st => v = (AV.sl 1 (List.map encI (Dg.distL g t))) ∧ st = []) := by
  refine acallsX_body Try.func54 (by kernel_rfl) rfl Try.ntmps54 (le_ rfl) ?_
  rw [Try.results54]
  have hgn := hg.nb
  refine awx_seq ?_
  refine awx_region rfl ?_
  refine st_n (fun _ => by exact y_box (.plain rfl)) rfl fun n2 => ?_
  refine st_p (fun _ => by exact y_assign (.plain rfl)) rfl ?_
  refine aops_nil ?_
  refine awx_seq ?_
  refine awx_region rfl ?_
  refine st_p (fun _ => by exact y_fieldPtr (.plain rfl)) rfl ?_
  refine st_p (fun _ => by exact y_load (.plain rfl) (by first | exact .here | exact k1 | exact k2 | exact k3 | exact k4 | exact k5 | exact k6 | exact k7 | exact k8 | exact k9 | exact k10 | exact k11 | exact k12 | exact k13) rfl) rfl ?_
  refine st_n (fun _ => by exact y_makeArr (by rfl) (.plain rfl) (.plain rfl) (Int.toNat_of_nonneg (a := g.n) (by omega)).symm (by omega)) rfl fun nj => ?_
  refine st_n (fun _ => by exact y_alloc) rfl fun n5 => ?_
  refine st_s (fun _ => by exact y_storeW (by rfl) rfl (.plain rfl) (.plain rfl) (by first | exact .here | exact u1 | exact u2 | exact u3 | exact u4 | exact u5 | exact u6 | exact u7 | exact u8 | exact u9 | exact u10 | exact u11 | exact u12 | exact u13) (by rfl)) ?_
  refine aops_nil ?_
  refine awx_seq ?_
  refine awx_seq ?_
  refine awx_region rfl ?_
  refine st_p (fun _ => by exact y_fieldPtr (.plain rfl)) rfl ?_
  refine st_p (fun _ => by exact y_load (.plain rfl) (by first | exact .here | exact k1 | exact k2 | exact k3 | exact k4 | exact k5 | exact k6 | exact k7 | exact k8 | exact k9 | exact k10 | exact k11 | exact k12 | exact k13) rfl) rfl ?_
  refine st_p (fun _ => by exact y_move (.plain rfl)) rfl ?_
  refine aops_nil ?_
  refine awx_block ?_
  refine awx_loop3 (X := Nat × (Int → Option Nat)) [1, 2, 5, 16] (.cons rfl (.cons rfl (.cons rfl (.cons rfl .nil)))) (fun σ x => ((17, .int (x.1 : Int)) : Nat × AV) :: σ) (fun R x => .cells n2 (encG g) :: .cells n5 [.arr nj 0 g.n.toNat] :: .cells nj (ea g.n.toNat (fun j => .grow 1 (x.2 j) ((Dg.back g x.1 j).map encI))) :: (R ++ tails g.n.toNat x.2)) (fun x => x.1 ≤ g.n.toNat) (fun x => g.n.toNat - x.1) (0, fun _ => none) (by exact Weak.trans (tails_none g.n.toNat _) (Weak.trans (Weak.perm (st' := .cells n2 _ :: .cells n5 _ :: .cells nj _ :: tails g.n.toNat (fun _ => none)) ((List.perm_append_comm (l₁ := tails g.n.toNat (fun _ => none)) (l₂ := [Aw.Item.cells n5 _, Aw.Item.cells nj _, Aw.Item.cells n2 _])).trans (Takes.perm (its := [.cells n2 _, .cells n5 _, .cells nj _]) (r := tails g.n.toNat (fun _ => none)) (by apply Takes.cons (by first | exact .here | exact k1 | exact k2 | exact k3 | exact k4 | exact k5 | exact k6 | exact k7 | exact k8 | exact k9 | exact k10 | exact k11 | exact k12 | exact k13); apply Takes.cons (by first | exact .here | exact k1 | exact k2 | exact k3 | exact k4 | exact k5 | exact k6 | exact k7 | exact k8 | exact k9 | exact k10 | exact k11 | exact k12 | exact k13); apply Takes.cons (by first | exact .here | exact k1 | exact k2 | exact k3 | exact k4 | exact k5 | exact k6 | exact k7 | exact k8 | exact k9 | exact k10 | exact k11 | exact k12 | exact k13); exact .nil _)))) (Weak.of2 (by (repeat (first | exact .nil _ | refine .cons rfl (by first | exact AV.Imp.refl _ | exact Sl.imp | exact AV.Imp.agg RowOf.imp | exact AV.Imp.grow_sl | exact AV.Imp.nil_grow | exact AV.Imp.full_grow | exact AV.Imp.own_grow | exact AV.Imp.grow_of rfl | exact AV.Imp.sl_of rfl | exact AV.Imp.int_of (by omega) | exact AV.Imp.of_eq (by first | omega | simpa)) ?_)); done) (.cons .here (.cons .here (.cells .here (by rw [ea_make]; exact ea_imp fun j _ => AV.Imp.nil_grow) (.refl _))))))) (Nat.zero_le _) ?_
  intro ms1
  rintro ⟨k, tl⟩ hk
  simp only at hk
  dsimp only
  refine awx_seq ?_
  refine awx_region rfl ?_
  refine st_p (fun _ => by exact y_lss (.plain rfl) (.plain rfl)) rfl ?_
  refine aops_nil ?_
  refine awx_seq ?_
  refine awx_cond rfl (fun h1 => ?_) (fun h1 => ?_)
  · skip
    try simp only [decide_eq_true_eq, decide_eq_false_iff_not, Bool.not_eq_true', Bool.not_eq_false', Bool.not_eq_true, Bool.not_eq_false, List.length_map, Int.ofNat_lt, Int.ofNat_le, Bool.or_eq_true, Bool.and_eq_true, Bool.or_eq_false_iff, Bool.and_eq_false_iff] at h1
    refine awx_skip ?_
    refine awx_seq ?_
    refine awx_block ?_
    refine awx_seq ?_
    refine awx_region rfl ?_
    refine st_p (fun _ => by exact y_move (.plain rfl)) rfl ?_
    refine st_n (fun _ => by exact y_alloc) rfl fun nu => ?_
    refine st_s (fun _ => by exact y_storeW (by rfl) rfl (.plain rfl) (.plain rfl) (by first | exact .here | exact u1 | exact u2 | exact u3 | exact u4 | exact u5 | exact u6 | exact u7 | exact u8 | exact u9 | exact u10 | exact u11 | exact u12 | exact u13) (by rfl)) ?_
    refine aops_nil ?_
    refine awx_seq ?_
    have hkn : (k : Int) < g.n := by omega
    refine awx_region rfl ?_
    refine st_p (fun _ => by exact y_loadW (.plain rfl) (by first | exact .here | exact k1 | exact k2 | exact k3 | exact k4 | exact k5 | exact k6 | exact k7 | exact k8 | exact k9 | exact k10 | exact k11 | exact k12 | exact k13) (by rfl)) rfl ?_
    refine st_p (fun _ => by exact y_load (.plain rfl) (by first | exact .here | exact k1 | exact k2 | exact k3 | exact k4 | exact k5 | exact k6 | exact k7 | exact k8 | exact k9 | exact k10 | exact k11 | exact k12 | exact k13) rfl) rfl ?_
    refine aops_call (blt_lt rfl) (.plain rfl) (.cons (.plain rfl) (.cons (.plain rfl) .nil)) (ACalls.frame (st1 := []) (succ0_c g (k : Int)) (List.Perm.refl _) ?_)
    rintro v st ⟨si, sj, rfl, rfl⟩
    refine aops_nil ?_
    refine awx_block ?_
    refine awx_rangeFunc rfl fun iL iD T fn D RS hRS => ?_
    refine ACalls.frame (succ_c g hg (k : Int) ⟨by omega, hkn⟩ si sj (.yld iL _ _ T) (fun i st => ∃ tl st0, st = Aw.Item.raw iL (RS .ready none) :: st0 ∧ st0.Perm (.cells n5 [.arr nj 0 g.n.toNat] :: .cells nj (ea g.n.toNat (fun j => .grow 1 (tl j) (((Dg.backU g k ((Dg.suc g k).take i) (Dg.back g k)) j).map encI))) :: .cells nu [.int (k : Int)] :: tails g.n.toNat tl)) (fun _ => False) (.raw iL (RS .ready none) :: .cells n5 [.arr nj 0 g.n.toNat] :: .cells nj (ea g.n.toNat (fun j => .grow 1 (tl j) ((Dg.back g k j).map encI))) :: .cells nu [.int (k : Int)] :: tails g.n.toNat tl) ⟨tl, _, rfl, List.Perm.refl _⟩ ?_) ((Takes.perm (by apply Takes.cons (by first | exact .here | exact k1 | exact k2 | exact k3 | exact k4 | exact k5 | exact k6 | exact k7 | exact k8 | exact k9 | exact k10 | exact k11 | exact k12 | exact k13); apply Takes.cons (by first | exact .here | exact k1 | exact k2 | exact k3 | exact k4 | exact k5 | exact k6 | exact k7 | exact k8 | exact k9 | exact k10 | exact k11 | exact k12 | exact k13); apply Takes.cons (by first | exact .here | exact k1 | exact k2 | exact k3 | exact k4 | exact k5 | exact k6 | exact k7 | exact k8 | exact k9 | exact k10 | exact k11 | exact k12 | exact k13); apply Takes.cons (by first | exact .here | exact k1 | exact k2 | exact k3 | exact k4 | exact k5 | exact k6 | exact k7 | exact k8 | exact k9 | exact k10 | exact k11 | exact k12 | exact k13); apply Takes.cons (by first | exact .here | exact k1 | exact k2 | exact k3 | exact k4 | exact k5 | exact k6 | exact k7 | exact k8 | exact k9 | exact k10 | exact k11 | exact k12 | exact k13); apply Takes.cons (by first | exact .here | exact k1 | exact k2 | exact k3 | exact k4 | exact k5 | exact k6 | exact k7 | exact k8 | exact k9 | exact k10 | exact k11 | exact k12 | exact k13); exact .nil _)).trans (List.Perm.append_left [Aw.Item.cells sj _, Aw.Item.cells si _, Aw.Item.raw iL _, Aw.Item.cells n5 _, Aw.Item.cells nj _, Aw.Item.cells nu _] (List.perm_append_comm (l₁ := Aw.Item.raw iD _ :: Aw.Item.cells n2 _ :: markIts ms1)))) ?_
    · skip
      rintro i hi st ⟨tl, st0, rfl, hp⟩
      have hvb := (hg.row (k : Int)).2 _ (List.getElem_mem hi)
      have hvt : (Dg.suc g k)[i].toNat < g.n.toNat := by omega
      have hbl := Dg.backU_bd g k ((Dg.suc g k).take i) (Dg.back g k) (2000 * k) (Dg.back_bd hg k) (Dg.suc g k)[i]
      rw [List.length_take] at hbl
      have hsl := (hg.row (k : Int)).1
      refine AYields.round hRS (by decide) rfl (fun lb => ?_)
      refine awx_weak (Weak.perm hp) ?_
      refine awx_region rfl ?_
      refine st_p (fun _ => by exact y_assign (.plain rfl)) rfl ?_
      refine aops_nil ?_
      refine ⟨rfl, ?_⟩
      refine awx_block ?_
      refine awx_weak (Weak.perm (List.Perm.append_left [Aw.Item.cells n5 _, Aw.Item.cells nj _, Aw.Item.cells nu _] (tails_perm tl hvt))) ?_
      rw [Int.toNat_of_nonneg hvb.1]
      refine awx_anyT (ks := [.free, .free, .free, .free, .free, .read, .free, .free, .write, .free, .write]) [.tail (tl (Dg.suc g k)[i]), .cells nj _] (by apply Takes.cons (by first | exact .here | exact k1 | exact k2 | exact k3 | exact k4 | exact k5 | exact k6 | exact k7 | exact k8 | exact k9 | exact k10 | exact k11 | exact k12 | exact k13); apply Takes.cons (by first | exact .here | exact k1 | exact k2 | exact k3 | exact k4 | exact k5 | exact k6 | exact k7 | exact k8 | exact k9 | exact k10 | exact k11 | exact k12 | exact k13); exact .nil _) (by kernel_rfl) rfl (fun K => ?_) ?_
      · skip
        refine dr_p (fun _ => by exact y_load (.plain rfl) (by first | exact .here | exact k1 | exact k2 | exact k3 | exact k4 | exact k5 | exact k6 | exact k7 | exact k8 | exact k9 | exact k10 | exact k11 | exact k12 | exact k13) rfl) rfl ?_
        refine dr_p (fun _ => by exact y_move (.plain rfl)) rfl ?_
        refine dr_p (fun _ => by exact y_load (.plain rfl) (by first | exact .here | exact k1 | exact k2 | exact k3 | exact k4 | exact k5 | exact k6 | exact k7 | exact k8 | exact k9 | exact k10 | exact k11 | exact k12 | exact k13) rfl) rfl ?_
        refine dr_p (fun _ => by exact y_move (.plain rfl)) rfl ?_
        refine dr_p (fun _ => by exact y_indexArr (.plain rfl) (.plain rfl) (Int.toNat_of_nonneg hvb.1).symm hvt) rfl ?_
        refine dr_r (fun _ => by exact y_load (.plain rfl) (.there .here) (ea_get _ ⟨hvb.1, by omega⟩)) rfl ?_
        refine dr_p (fun _ => by exact y_load (.plain rfl) (by first | exact .here | exact k1 | exact k2 | exact k3 | exact k4 | exact k5 | exact k6 | exact k7 | exact k8 | exact k9 | exact k10 | exact k11 | exact k12 | exact k13) rfl) rfl ?_
        refine dr_p (fun _ => by exact y_buildSlice (.cons (.plain rfl) inferInstance (by rfl) .nil) rfl (le_ rfl)) rfl ?_
        first | refine dr_append (by rfl) (.plain rfl) (.plain rfl) (by first | (simp; try omega) | omega) rfl fun t' => ?_ | refine dr_append0 (by rfl) (.plain rfl) (.plain rfl) (by first | (simp; try omega) | omega) rfl fun t' => ?_ | refine dr_append0 (by rfl) (.imp (.plain rfl) AV.Imp.nil_grow) (.plain rfl) (by first | (simp; try omega) | omega) rfl fun t' => ?_ | refine dr_append0 (by rfl) (.imp (.plain rfl) AV.Imp.full_grow) (.plain rfl) (by first | (simp; try omega) | omega) rfl fun t' => ?_
        refine dr_p (fun _ => by exact y_indexArr (.plain rfl) (.plain rfl) (Int.toNat_of_nonneg hvb.1).symm hvt) rfl ?_
        refine dr_s (fun _ => by exact y_store (by rfl) rfl (.plain rfl) (.plain rfl) (.there .here) (by rw [ea_len]; simp; omega)) ?_
        refine dr_nil ?_
        refine ⟨true, rfl, fun _ => ⟨fun j => if j = (((Dg.suc g k)[i].toNat : Nat) : Int) then t' else tl j, _, rfl, ?_⟩, fun h => by cases h⟩
        rw [ea_set _ _ ⟨hvb.1, by omega⟩, show (ea g.n.toNat fun j => if j = (Dg.suc g k)[i] then AV.grow 1 t' (((Dg.backU g k ((Dg.suc g k).take i) (Dg.back g k)) (Dg.suc g k)[i]).map encI ++ [[AV.int (k : Int)]]) else AV.grow 1 (tl j) (((Dg.backU g k ((Dg.suc g k).take i) (Dg.back g k)) j).map encI)) = (ea g.n.toNat (fun j => .grow 1 ((fun j => if j = (((Dg.suc g k)[i].toNat : Nat) : Int) then t' else tl j) j) (((Dg.backU g k ((Dg.suc g k).take (i + 1)) (Dg.back g k)) j).map encI))) from ?_]
        · exact (Takes.perm (by apply Takes.cons (by first | exact .here | exact k1 | exact k2 | exact k3 | exact k4 | exact k5 | exact k6 | exact k7 | exact k8 | exact k9 | exact k10 | exact k11 | exact k12 | exact k13); apply Takes.cons (by first | exact .here | exact k1 | exact k2 | exact k3 | exact k4 | exact k5 | exact k6 | exact k7 | exact k8 | exact k9 | exact k10 | exact k11 | exact k12 | exact k13); apply Takes.cons (by first | exact .here | exact k1 | exact k2 | exact k3 | exact k4 | exact k5 | exact k6 | exact k7 | exact k8 | exact k9 | exact k10 | exact k11 | exact k12 | exact k13); exact .nil _)).trans (List.Perm.append_left [Aw.Item.cells n5 _, Aw.Item.cells nj _, Aw.Item.cells nu _] (tails_perm2 tl t' hvt))
        · refine ea_congr fun j _ => ?_
          dsimp only
          rw [Int.toNat_of_nonneg hvb.1, ← Dg.backU_succ _ _ _ _ hi]
          by_cases e : j = (Dg.suc g k)[i]
          · rw [if_pos e, if_pos e, if_pos e, List.map_append]; rfl
          · rw [if_neg e, if_neg e, if_neg e]
      · kernel_rfl
    rintro v st' ⟨stx, rfl, ⟨tl, st0, rfl, hp⟩ | hx⟩
    rotate_left
    · cases hx
    refine ⟨.ready, none, _, (Take.perm (.there (.there .here))).trans (.cons _ (.cons _ (.cons _ ((hp.append_right _).trans (List.Perm.append_left [Aw.Item.cells n5 _, Aw.Item.cells nj _, Aw.Item.cells nu _] List.perm_append_comm))))), by simp, ?_⟩
    rw [Dg.backU_all]
    refine awx_region rfl ?_
    refine st_p (fun _ => by exact y_add (.plain rfl) (.plain rfl) (by first | omega | (simp; omega) | (simp at hc; omega) | (simp at hc ⊢; omega) | (simp; done))) rfl ?_
    refine st_p (fun _ => by exact y_move (.plain rfl)) rfl ?_
    refine aops_nil ?_
    refine ⟨(k + 1, tl), by show k + 1 ≤ _; omega, by show g.n.toNat - (k + 1) < g.n.toNat - k; omega, ?_⟩
    dsimp only
    rw [Dg.back_succ]
    exact Weak.of2 (by (repeat (first | exact .nil _ | refine .cons rfl (by first | exact AV.Imp.refl _ | exact Sl.imp | exact AV.Imp.agg RowOf.imp | exact AV.Imp.grow_sl | exact AV.Imp.nil_grow | exact AV.Imp.full_grow | exact AV.Imp.own_grow | exact AV.Imp.grow_of rfl | exact AV.Imp.sl_of rfl | exact AV.Imp.int_of (by omega) | exact AV.Imp.of_eq (by first | omega | simpa)) ?_)); done) (by apply ItLe2.cons (by first | exact .here | exact k1 | exact k2 | exact k3 | exact k4 | exact k5 | exact k6 | exact k7 | exact k8 | exact k9 | exact k10 | exact k11 | exact k12 | exact k13); apply ItLe2.cons (by first | exact .here | exact k1 | exact k2 | exact k3 | exact k4 | exact k5 | exact k6 | exact k7 | exact k8 | exact k9 | exact k10 | exact k11 | exact k12 | exact k13); apply ItLe2.cons (by first | exact .here | exact k1 | exact k2 | exact k3 | exact k4 | exact k5 | exact k6 | exact k7 | exact k8 | exact k9 | exact k10 | exact k11 | exact k12 | exact k13); apply ItLe2.cons (by first | exact .here | exact k1 | exact k2 | exact k3 | exact k4 | exact k5 | exact k6 | exact k7 | exact k8 | exact k9 | exact k10 | exact k11 | exact k12 | exact k13); exact .sub (.cons _ (.cons _ (.cons _ (.refl _)))))
  · skip
    try simp only [decide_eq_true_eq, decide_eq_false_iff_not, Bool.not_eq_true', Bool.not_eq_false', Bool.not_eq_true, Bool.not_eq_false, List.length_map, Int.ofNat_lt, Int.ofNat_le, Bool.or_eq_true, Bool.and_eq_true, Bool.or_eq_false_iff, Bool.and_eq_false_iff] at h1
    refine awx_exit ?_
    refine awx_seq ?_
    obtain rfl : k = g.n.toNat := by omega
    refine awx_weak (Weak.items2 (st' := .cells n5 [.arr nj 0 ((Dg.backL g).map encLI).length] :: .cells nj (((Dg.backL g).map encLI).flatten ++ []) :: .cells n2 (encG g) :: (markIts ms1 ++ tails g.n.toNat tl)) (.cells (.there .here) ?_ (.cells (.there .here) ?_ (.refl _)))) ?_
    · rw [List.length_map, Dg.backL, bl_len]; exact ImpL.refl _
    · rw [List.append_nil]
      exact Eq.mp (congrArg (ImpL _) (ea_row (fun b : List Int => .sl 1 (b.map encI)) g.n.toNat (Dg.back g g.n.toNat)).symm) (ea_imp fun j _ => AV.Imp.grow_sl)
    refine awx_weak (st' := .cells n5 [.sl 1 ((Dg.backL g).map encLI)] :: .cells n2 (encG g) :: (markIts ms1 ++ tails g.n.toNat tl)) (Weak.freezeC (cs := [.arr nj 0 ((Dg.backL g).map encLI).length]) (i := 0) (sz := 1) (xs := (Dg.backL g).map encLI) (pad := []) (by simp [encLI]) rfl (.cons (.there .here) (.cons .here (.nil _)))) ?_
    refine awx_weak (Weak.items2 (st' := .cells n5 [.sl 1 ((Dg.backL g).map encLI)] :: .cells n2 (encG g) :: markIts ms1) (.cons .here (.cons .here (.sub (List.sublist_append_left _ _))))) ?_
    refine awx_region rfl ?_
    refine st_p (fun _ => by exact y_buildSlice (.cons (.plain rfl) inferInstance (by rfl) .nil) rfl (le_ rfl)) rfl ?_
    refine st_p (fun _ => by exact y_fieldPtr (.plain rfl)) rfl ?_
    refine st_p (fun _ => by exact y_load (.plain rfl) (by first | exact .here | exact k1 | exact k2 | exact k3 | exact k4 | exact k5 | exact k6 | exact k7 | exact k8 | exact k9 | exact k10 | exact k11 | exact k12 | exact k13) rfl) rfl ?_
    refine aops_call (blt_lt rfl) (.plain rfl) (.cons (.imp (.plain rfl) Sl.imp) (.cons (.imp (.plain rfl) (AV.Imp.int_of (Int.toNat_of_nonneg hgn.1).symm)) .nil)) (ACalls.frame (st1 := []) (repI_c (-1) g.n.toNat (by omega)) (List.Perm.refl _) ?_)
    rintro v st ⟨nd, rfl, rfl⟩
    refine st_p (fun _ => by exact y_assign (.plain rfl)) rfl ?_
    refine aops_nil ?_
    refine awx_seq ?_
    rw [show (List.replicate g.n.toNat (encI (-1))).flatten = ea g.n.toNat (fun _ => .int (-1)) from ea_rep _ _]
    refine awx_region rfl ?_
    refine st_p (fun _ => by exact y_move (.plain rfl)) rfl ?_
    refine st_p (fun _ => by exact y_move (.plain rfl)) rfl ?_
    refine st_p (fun _ => by exact y_indexArr (.plain rfl) (.plain rfl) (Int.toNat_of_nonneg ht.1).symm (by omega)) rfl ?_
    refine st_s (fun _ => by exact y_store (by rfl) rfl (.plain rfl) (.plain rfl) (by first | exact .here | exact u1 | exact u2 | exact u3 | exact u4 | exact u5 | exact u6 | exact u7 | exact u8 | exact u9 | exact u10 | exact u11 | exact u12 | exact u13) (by rw [ea_len]; simp; omega)) ?_
    refine aops_nil ?_
    rw [ea_setI (f := fun _ => -1) _ ⟨ht.1, by omega⟩]
    refine awx_seq ?_
    refine awx_seq ?_
    refine awx_region rfl ?_
    refine st_p (fun _ => by exact y_move (.plain rfl)) rfl ?_
    refine st_p (fun _ => by exact y_buildSlice (.cons (.plain rfl) inferInstance (by rfl) .nil) rfl (le_ rfl)) rfl ?_
    refine st_p (fun _ => by exact y_assign (.plain rfl)) rfl ?_
    refine aops_nil ?_
    refine awx_block ?_
    refine awx_loop2 (X := Nat × (Int → Int) × List Int × Option Nat) (rest := []) [5, 8] (.cons rfl (.cons rfl .nil)) (fun σ x => ((9, .grow 1 x.2.2.2 (x.2.2.1.map encI)) : Nat × AV) :: σ) (fun R x => .cells nd (ea g.n.toNat (fun j => .int (x.2.1 j))) :: .cells n5 [.sl 1 (Dg.backL g |>.map encLI)] :: .tail x.2.2.2 :: markIts ms1) (fun x => Dg.bfs (Dg.back g g.n.toNat) x.1 (x.2.1, x.2.2.1) = Dg.dist g t ∧ Dg.BI g.n.toNat ((g.n.toNat + 1 : Nat) - (x.1 : Int)) x.1 (x.2.1, x.2.2.1)) (fun x => x.1) (g.n.toNat + 1, Dg.upd (fun _ => -1) t 0, [t], none) (by exact Weak.of2 (by (repeat (first | exact .nil _ | refine .cons rfl (by first | exact AV.Imp.refl _ | exact Sl.imp | exact AV.Imp.agg RowOf.imp | exact AV.Imp.grow_sl | exact AV.Imp.nil_grow | exact AV.Imp.full_grow | exact AV.Imp.own_grow | exact AV.Imp.grow_of rfl | exact AV.Imp.sl_of rfl | exact AV.Imp.int_of (by omega) | exact AV.Imp.of_eq (by first | omega | simpa)) ?_)); done) (.cons .here (.cons .here (.tail0 (.sub (.cons _ (.refl _))))))) ⟨rfl, (Dg.BI.start ⟨ht.1, by omega⟩).mono (by simp)⟩ ?_
    rintro ⟨f, d, q0, tok⟩ ⟨hbf, hbi⟩
    simp only at hbf hbi
    have hbn := hbi.n
    simp only at hbn
    dsimp only
    refine awx_seq ?_
    refine awx_seq ?_
    refine awx_region rfl ?_
    refine st_p (fun _ => by exact y_move (.plain rfl)) rfl ?_
    first | refine st_p (fun _ => by exact y_lenN (.plain rfl)) rfl ?_ | refine st_p (fun _ => by exact y_len (.plain rfl)) rfl ?_ | refine st_p (fun _ => by exact y_lenArr (.plain rfl)) rfl ?_
    refine st_p (fun _ => by exact y_gtr (.plain rfl) (.plain rfl)) rfl ?_
    refine aops_nil ?_
    refine awx_cond rfl (fun h2 => ?_) (fun h2 => ?_)
    · skip
      try simp only [decide_eq_true_eq, decide_eq_false_iff_not, Bool.not_eq_true', Bool.not_eq_false', Bool.not_eq_true, Bool.not_eq_false, List.length_map, Int.ofNat_lt, Int.ofNat_le, Bool.or_eq_true, Bool.and_eq_true, Bool.or_eq_false_iff, Bool.and_eq_false_iff] at h2
      obtain ⟨q, qs, rfl⟩ : ∃ q qs, q0 = q :: qs := by
        cases q0 with
        | nil => simp at h2
        | cons a b => exact ⟨a, b, rfl⟩
      obtain ⟨f, rfl⟩ : ∃ f0, f = f0 + 1 := ⟨f - 1, by rw [List.length_cons] at hbn; omega⟩
      have hqc : d q + 1 ≤ ((g.n.toNat + 1 : Nat) : Int) - (f : Int) := by have := (hbi.d q).2; simp only at this; push_cast at this; omega
      replace hbi := hbi.mono (c' := ((g.n.toNat + 1 : Nat) : Int) - (f : Int)) (by push_cast; omega)
      refine awx_skip ?_
      refine awx_seq ?_
      refine awx_block ?_
      refine awx_seq ?_
      have hqb := hbi.q q (by simp)
      simp only at hqb
      have hqd := (hbi.d q).2
      have hbll : (Dg.backL g).length = g.n.toNat := bl_len _ _
      have hbq : (Dg.backL g).getD q.toNat default = (Dg.back g g.n.toNat) q := by rw [Dg.backL, bl_getD _ _ _ _ (by omega), Int.toNat_of_nonneg hqb.1.1]
      have hbm : ∀ u ∈ (Dg.back g g.n.toNat) q, 0 ≤ u ∧ u < (g.n.toNat : Int) := fun u hu => by have := (Dg.back_mem g g.n.toNat q u).1 hu; exact this.1
      have hbql := Dg.back_bd hg g.n.toNat q
      refine awx_anyT (ks := [.free, .free, .free, .free, .free, .free, .free, .free]) [] (.nil _) (by kernel_rfl) rfl (fun K => ?_) ?_
      · skip
        refine dr_p (fun _ => by exact y_load (.plain rfl) (by first | exact .here | exact k1 | exact k2 | exact k3 | exact k4 | exact k5 | exact k6 | exact k7 | exact k8 | exact k9 | exact k10 | exact k11 | exact k12 | exact k13) rfl) rfl ?_
        refine dr_p (fun _ => by exact y_move (.plain rfl)) rfl ?_
        first | refine dr_p (fun _ => by exact y_indexMap (.plain rfl) (.plain rfl) rfl (by refine ⟨?_, ?_⟩; (first | omega | (simp; omega) | (simp at hc; omega) | (simp at hc ⊢; omega) | (simp; done)); rfl)) rfl ?_ | refine dr_p (fun _ => by exact y_indexT (.plain rfl) (.plain rfl) (by first | omega | (simp; omega) | (simp at hc; omega) | (simp at hc ⊢; omega) | (simp; done)) (by first | omega | (simp; omega) | (simp at hc; omega) | (simp at hc ⊢; omega) | (simp; done))) rfl ?_ | refine dr_p (fun _ => by exact y_index (.plain rfl) (.plain rfl) (by omega) rfl) rfl ?_ | refine dr_p (fun _ => by exact y_indexArr (.plain rfl) (.plain rfl) rfl (by first | omega | (simp; omega) | (simp at hc; omega) | (simp at hc ⊢; omega) | (simp; done))) rfl ?_
        refine dr_p (fun _ => by exact y_loadE (.plain rfl) rfl) rfl ?_
        refine dr_p (v := .eptr (encLI ((Dg.back g g.n.toNat) q))) (fun _ => by rw [← hbq]; exact y_indexT (l := Dg.backL g) (.plain rfl) (.plain rfl) hqb.1.1 (by rw [hbll]; omega)) rfl ?_
        refine dr_p (fun _ => by exact y_loadE (.plain rfl) rfl) rfl ?_
        first | refine dr_p (fun _ => by exact y_lenN (.plain rfl)) rfl ?_ | refine dr_p (fun _ => by exact y_len (.plain rfl)) rfl ?_ | refine dr_p (fun _ => by exact y_lenArr (.plain rfl)) rfl ?_
        refine dr_p (fun _ => by exact y_move (.plain rfl)) rfl ?_
        refine dr_nil ?_
        refine awx_block ?_
        refine awx_loop2 (X := Nat × Option Nat) (rest := []) [5, 8, 54, 55] (.cons rfl (.cons rfl (.cons rfl (.cons rfl .nil)))) (fun σ x => ((9, .grow 1 x.2 (((((Dg.back g g.n.toNat) q).take x.1).foldl (Dg.seeF q) (d, q :: qs)).2.map encI)) : Nat × AV) :: ((56, .int (x.1 : Int)) : Nat × AV) :: σ) (fun R x => .cells nd (ea g.n.toNat (fun j => .int (((((Dg.back g g.n.toNat) q).take x.1).foldl (Dg.seeF q) (d, q :: qs)).1 j))) :: .cells n5 [.sl 1 (Dg.backL g |>.map encLI)] :: .tail x.2 :: markIts ms1) (fun x => x.1 ≤ ((Dg.back g g.n.toNat) q).length) (fun x => ((Dg.back g g.n.toNat) q).length - x.1) (0, tok) (by exact Weak.of2 (by (repeat (first | exact .nil _ | refine .cons rfl (by first | exact AV.Imp.refl _ | exact Sl.imp | exact AV.Imp.agg RowOf.imp | exact AV.Imp.grow_sl | exact AV.Imp.nil_grow | exact AV.Imp.full_grow | exact AV.Imp.own_grow | exact AV.Imp.grow_of rfl | exact AV.Imp.sl_of rfl | exact AV.Imp.int_of (by omega) | exact AV.Imp.of_eq (by first | omega | simpa)) ?_)); done) (by (repeat (first | exact .refl _ | exact .nil _ | apply ItLe2.cons (by first | exact .here | exact k1 | exact k2 | exact k3 | exact k4 | exact k5 | exact k6 | exact k7 | exact k8 | exact k9 | exact k10 | exact k11 | exact k12 | exact k13) | apply ItLe2.cells (by first | exact .here | exact k1 | exact k2 | exact k3 | exact k4 | exact k5 | exact k6 | exact k7 | exact k8 | exact k9 | exact k10 | exact k11 | exact k12 | exact k13) (by repeat (first | exact .nil | refine .cons (by first | exact AV.Imp.refl _ | exact Sl.imp | exact AV.Imp.agg RowOf.imp | exact AV.Imp.grow_sl | exact AV.Imp.nil_grow | exact AV.Imp.full_grow | exact AV.Imp.own_grow | exact AV.Imp.grow_of rfl | exact AV.Imp.sl_of rfl | exact AV.Imp.int_of (by omega) | exact AV.Imp.of_eq (by first | omega | simpa)) ?_)) | apply ItLe2.tail0)); done)) (Nat.zero_le _) ?_
        rintro ⟨i, tk⟩ hi
        simp only at hi
        obtain ⟨hB, ⟨r', hr'⟩, hdq⟩ := Dg.BI.fold (((Dg.back g g.n.toNat) q).take i) hbi rfl hqc (fun u hu => hbm u (List.mem_of_mem_take hu))
        simp only at hdq
        have hBn := hB.n
        dsimp only
        refine awx_seq ?_
        refine awx_region rfl ?_
        refine st_p (fun _ => by exact y_lss (.plain rfl) (.plain rfl)) rfl ?_
        refine aops_nil ?_
        refine awx_seq ?_
        refine awx_cond rfl (fun h3 => ?_) (fun h3 => ?_)
        · skip
          try simp only [decide_eq_true_eq, decide_eq_false_iff_not, Bool.not_eq_true', Bool.not_eq_false', Bool.not_eq_true, Bool.not_eq_false, List.length_map, Int.ofNat_lt, Int.ofNat_le, Bool.or_eq_true, Bool.and_eq_true, Bool.or_eq_false_iff, Bool.and_eq_false_iff] at h3
          refine awx_skip ?_
          refine awx_seq ?_
          refine awx_block ?_
          refine awx_seq ?_
          refine awx_region rfl ?_
          first | refine st_p (fun _ => by exact y_indexMap (.plain rfl) (.plain rfl) rfl (by refine ⟨?_, ?_⟩; (first | omega | (simp; omega) | (simp at hc; omega) | (simp at hc ⊢; omega) | (simp; done)); rfl)) rfl ?_ | refine st_p (fun _ => by exact y_indexT (.plain rfl) (.plain rfl) (by first | omega | (simp; omega) | (simp at hc; omega) | (simp at hc ⊢; omega) | (simp; done)) (by first | omega | (simp; omega) | (simp at hc; omega) | (simp at hc ⊢; omega) | (simp; done))) rfl ?_ | refine st_p (fun _ => by exact y_index (.plain rfl) (.plain rfl) (by omega) rfl) rfl ?_ | refine st_p (fun _ => by exact y_indexArr (.plain rfl) (.plain rfl) rfl (by first | omega | (simp; omega) | (simp at hc; omega) | (simp at hc ⊢; omega) | (simp; done))) rfl ?_
          refine st_p (fun _ => by exact y_loadE (.plain rfl) rfl) rfl ?_
          refine st_p (fun _ => by exact y_assign (.plain rfl)) rfl ?_
          refine aops_nil ?_
          refine awx_seq ?_
          have hub := hbm _ (List.getElem_mem h3)
          have hsf1 := Dg.fold_succ (Dg.seeF q) (d, q :: qs) ((Dg.back g g.n.toNat) q) h3
          refine awx_region rfl ?_
          refine st_p (fun _ => by exact y_move (.plain rfl)) rfl ?_
          refine st_p (fun _ => by exact y_move (.plain rfl)) rfl ?_
          refine st_p (fun _ => by exact y_indexArr (.plain rfl) (.plain rfl) (Int.toNat_of_nonneg hub.1).symm (by omega)) rfl ?_
          refine st_p (fun _ => by exact y_load (.plain rfl) (by first | exact .here | exact k1 | exact k2 | exact k3 | exact k4 | exact k5 | exact k6 | exact k7 | exact k8 | exact k9 | exact k10 | exact k11 | exact k12 | exact k13) (ea_get _ ⟨hub.1, by omega⟩)) rfl ?_
          refine st_p (fun _ => by exact y_lss (.plain rfl) (.plain rfl)) rfl ?_
          refine aops_nil ?_
          refine awx_cond rfl (fun h4 => ?_) (fun h4 => ?_)
          · skip
            try simp only [decide_eq_true_eq, decide_eq_false_iff_not, Bool.not_eq_true', Bool.not_eq_false', Bool.not_eq_true, Bool.not_eq_false, List.length_map, Int.ofNat_lt, Int.ofNat_le, Bool.or_eq_true, Bool.and_eq_true, Bool.or_eq_false_iff, Bool.and_eq_false_iff] at h4
            have hsf : ((((Dg.back g g.n.toNat) q).take (i + 1)).foldl (Dg.seeF q) (d, q :: qs)) = _ := hsf1.trans (by rw [Dg.seeF, if_pos h4])
            refine awx_seq ?_
            refine awx_region rfl ?_
            refine st_p (fun _ => by exact y_move (.plain rfl)) rfl ?_
            refine st_p (fun _ => by exact y_move (.plain rfl)) rfl ?_
            refine st_p (fun _ => by exact y_move (.plain rfl)) rfl ?_
            refine st_p (fun _ => by exact y_move (.plain rfl)) rfl ?_
            refine st_p (v := .eptr (encI q)) (fun _ => by rw [hr']; exact y_indexMap (l := q :: r') (.plain rfl) (.plain rfl) rfl (by simp)) rfl ?_
            refine st_p (fun _ => by exact y_loadE (.plain rfl) rfl) rfl ?_
            refine st_p (fun _ => by exact y_indexArr (.plain rfl) (.plain rfl) (Int.toNat_of_nonneg hqb.1.1).symm (by omega)) rfl ?_
            refine st_p (fun _ => by exact y_load (.plain rfl) (by first | exact .here | exact k1 | exact k2 | exact k3 | exact k4 | exact k5 | exact k6 | exact k7 | exact k8 | exact k9 | exact k10 | exact k11 | exact k12 | exact k13) (ea_get _ ⟨hqb.1.1, by omega⟩)) rfl ?_
            refine st_p (fun _ => by exact y_add (.plain rfl) (.plain rfl) (by first | omega | (simp; omega) | (simp at hc; omega) | (simp at hc ⊢; omega) | (simp; done))) rfl ?_
            refine st_p (fun _ => by exact y_indexArr (.plain rfl) (.plain rfl) (Int.toNat_of_nonneg hub.1).symm (by omega)) rfl ?_
            refine st_s (fun _ => by exact y_store (by rfl) rfl (.plain rfl) (.plain rfl) (by first | exact .here | exact u1 | exact u2 | exact u3 | exact u4 | exact u5 | exact u6 | exact u7 | exact u8 | exact u9 | exact u10 | exact u11 | exact u12 | exact u13) (by rw [ea_len]; simp; omega)) ?_
            refine aops_nil ?_
            rw [ea_setI (f := ((((Dg.back g g.n.toNat) q).take i).foldl (Dg.seeF q) (d, q :: qs)).1) _ ⟨hub.1, by omega⟩]
            refine awx_region rfl ?_
            refine st_p (fun _ => by exact y_move (.plain rfl)) rfl ?_
            refine st_p (fun _ => by exact y_move (.plain rfl)) rfl ?_
            refine st_p (fun _ => by exact y_buildSlice (.cons (.plain rfl) inferInstance (by rfl) .nil) rfl (le_ rfl)) rfl ?_
            first | refine st_append (by rfl) (.plain rfl) (.plain rfl) (by first | (simp; try omega) | omega) rfl fun tA => ?_ | refine st_appendT (by rfl) (.plain rfl) (.plain rfl) (by first | exact .here | exact k1 | exact k2 | exact k3 | exact k4 | exact k5 | exact k6 | exact k7 | exact k8 | exact k9 | exact k10 | exact k11 | exact k12 | exact k13) (by first | (simp; try omega) | omega) rfl fun tA => ?_ | refine st_append0 (by rfl) (.plain rfl) (.plain rfl) (by first | (simp; try omega) | omega) rfl fun tA => ?_ | refine st_append0 (by rfl) (.imp (.plain rfl) AV.Imp.nil_grow) (.plain rfl) (by first | (simp; try omega) | omega) rfl fun tA => ?_ | refine st_append0 (by rfl) (.imp (.plain rfl) AV.Imp.full_grow) (.plain rfl) (by first | (simp; try omega) | omega) rfl fun tA => ?_ | refine st_appendT (by rfl) (.imp (.plain rfl) AV.Imp.own_grow) (.plain rfl) (by first | exact .here | exact k1 | exact k2 | exact k3 | exact k4 | exact k5 | exact k6 | exact k7 | exact k8 | exact k9 | exact k10 | exact k11 | exact k12 | exact k13) (by first | (simp; try omega) | omega) rfl fun tA => ?_
            refine st_p (fun _ => by exact y_assign (.plain rfl)) rfl ?_
            refine aops_nil ?_
            refine awx_region rfl ?_
            refine st_p (fun _ => by exact y_add (.plain rfl) (.plain rfl) (by first | omega | (simp; omega) | (simp at hc; omega) | (simp at hc ⊢; omega) | (simp; done))) rfl ?_
            refine st_p (fun _ => by exact y_move (.plain rfl)) rfl ?_
            refine aops_nil ?_
            refine ⟨rfl, ?_⟩
            refine ⟨(i + 1, tA), by show i + 1 ≤ _; omega, by show ((Dg.back g g.n.toNat) q).length - (i + 1) < ((Dg.back g g.n.toNat) q).length - i; omega, ?_⟩
            dsimp only
            rw [hsf]
            exact Weak.of2 (by (repeat (first | exact .nil _ | refine .cons rfl (by first | exact AV.Imp.refl _ | exact Sl.imp | exact AV.Imp.agg RowOf.imp | exact AV.Imp.grow_sl | exact AV.Imp.nil_grow | exact AV.Imp.full_grow | exact AV.Imp.own_grow | exact AV.Imp.grow_of rfl | exact AV.Imp.sl_of rfl | exact AV.Imp.int_of (by omega) | exact AV.Imp.of_eq (by first | omega | simpa)) ?_)); done) (by (repeat (first | exact .refl _ | exact .nil _ | apply ItLe2.cons (by first | exact .here | exact k1 | exact k2 | exact k3 | exact k4 | exact k5 | exact k6 | exact k7 | exact k8 | exact k9 | exact k10 | exact k11 | exact k12 | exact k13) | apply ItLe2.cells (by first | exact .here | exact k1 | exact k2 | exact k3 | exact k4 | exact k5 | exact k6 | exact k7 | exact k8 | exact k9 | exact k10 | exact k11 | exact k12 | exact k13) (by repeat (first | exact .nil | refine .cons (by first | exact AV.Imp.refl _ | exact Sl.imp | exact AV.Imp.agg RowOf.imp | exact AV.Imp.grow_sl | exact AV.Imp.nil_grow | exact AV.Imp.full_grow | exact AV.Imp.own_grow | exact AV.Imp.grow_of rfl | exact AV.Imp.sl_of rfl | exact AV.Imp.int_of (by omega) | exact AV.Imp.of_eq (by first | omega | simpa)) ?_)) | apply ItLe2.tail0)); done)
          · skip
            try simp only [decide_eq_true_eq, decide_eq_false_iff_not, Bool.not_eq_true', Bool.not_eq_false', Bool.not_eq_true, Bool.not_eq_false, List.length_map, Int.ofNat_lt, Int.ofNat_le, Bool.or_eq_true, Bool.and_eq_true, Bool.or_eq_false_iff, Bool.and_eq_false_iff] at h4
            have hsf : ((((Dg.back g g.n.toNat) q).take (i + 1)).foldl (Dg.seeF q) (d, q :: qs)) = _ := hsf1.trans (by rw [Dg.seeF, if_neg h4])
            refine awx_skip ?_
            refine awx_region rfl ?_
            refine st_p (fun _ => by exact y_add (.plain rfl) (.plain rfl) (by first | omega | (simp; omega) | (simp at hc; omega) | (simp at hc ⊢; omega) | (simp; done))) rfl ?_
            refine st_p (fun _ => by exact y_move (.plain rfl)) rfl ?_
            refine aops_nil ?_
            refine ⟨rfl, ?_⟩
            refine ⟨(i + 1, tk), by show i + 1 ≤ _; omega, by show ((Dg.back g g.n.toNat) q).length - (i + 1) < ((Dg.back g g.n.toNat) q).length - i; omega, ?_⟩
            dsimp only
            rw [hsf]
            exact Weak.of2 (by (repeat (first | exact .nil _ | refine .cons rfl (by first | exact AV.Imp.refl _ | exact Sl.imp | exact AV.Imp.agg RowOf.imp | exact AV.Imp.grow_sl | exact AV.Imp.nil_grow | exact AV.Imp.full_grow | exact AV.Imp.own_grow | exact AV.Imp.grow_of rfl | exact AV.Imp.sl_of rfl | exact AV.Imp.int_of (by omega) | exact AV.Imp.of_eq (by first | omega | simpa)) ?_)); done) (by (repeat (first | exact .refl _ | exact .nil _ | apply ItLe2.cons (by first | exact .here | exact k1 | exact k2 | exact k3 | exact k4 | exact k5 | exact k6 | exact k7 | exact k8 | exact k9 | exact k10 | exact k11 | exact k12 | exact k13) | apply ItLe2.cells (by first | exact .here | exact k1 | exact k2 | exact k3 | exact k4 | exact k5 | exact k6 | exact k7 | exact k8 | exact k9 | exact k10 | exact k11 | exact k12 | exact k13) (by repeat (first | exact .nil | refine .cons (by first | exact AV.Imp.refl _ | exact Sl.imp | exact AV.Imp.agg RowOf.imp | exact AV.Imp.grow_sl | exact AV.Imp.nil_grow | exact AV.Imp.full_grow | exact AV.Imp.own_grow | exact AV.Imp.grow_of rfl | exact AV.Imp.sl_of rfl | exact AV.Imp.int_of (by omega) | exact AV.Imp.of_eq (by first | omega | simpa)) ?_)) | apply ItLe2.tail0)); done)
        · skip
          try simp only [decide_eq_true_eq, decide_eq_false_iff_not, Bool.not_eq_true', Bool.not_eq_false', Bool.not_eq_true, Bool.not_eq_false, List.length_map, Int.ofNat_lt, Int.ofNat_le, Bool.or_eq_true, Bool.and_eq_true, Bool.or_eq_false_iff, Bool.and_eq_false_iff] at h3
          obtain rfl : i = ((Dg.back g g.n.toNat) q).length := by omega
          rw [List.take_length] at hB hr' hdq hBn ⊢
          refine awx_exit ?_
          refine awx_region rfl ?_
          refine st_p (fun _ => by exact y_move (.plain rfl)) rfl ?_
          refine st_sliceG (l := 1) (.plain rfl) (.plain rfl) rfl (by rw [List.length_map, hr']; simp) (by first | exact .here | exact k1 | exact k2 | exact k3 | exact k4 | exact k5 | exact k6 | exact k7 | exact k8 | exact k9 | exact k10 | exact k11 | exact k12 | exact k13) rfl fun tC => ?_
          refine st_p (fun _ => by exact y_assign (.plain rfl)) rfl ?_
          refine aops_nil ?_
          refine ⟨rfl, ?_⟩
          have hqr' : (((((Dg.back g g.n.toNat) q)).foldl (Dg.seeF q) (d, q :: qs))).2 = q :: r' := hr'
          refine ⟨(f, (((((Dg.back g g.n.toNat) q)).foldl (Dg.seeF q) (d, q :: qs))).1, r', tC), ⟨?_, ?_⟩, by show f < f + 1; omega, ?_⟩
          · rw [← hbf, Dg.bfs]
            show Dg.bfs _ f _ = Dg.bfs _ f (_, (((((Dg.back g g.n.toNat) q)).foldl (Dg.seeF q) (d, q :: qs))).2.tail)
            rw [hqr']; rfl
          · exact (hB.pop hqr').mono (by push_cast; omega)
          · dsimp only
            rw [hqr']
            exact Weak.of2 (by (repeat (first | exact .nil _ | refine .cons rfl (by first | exact AV.Imp.refl _ | exact AV.Imp.of_eq (by rw [← List.map_drop, List.drop_one]; rfl) | exact Sl.imp | exact AV.Imp.agg RowOf.imp | exact AV.Imp.grow_sl | exact AV.Imp.nil_grow | exact AV.Imp.full_grow | exact AV.Imp.own_grow | exact AV.Imp.grow_of rfl | exact AV.Imp.sl_of rfl | exact AV.Imp.int_of (by omega) | exact AV.Imp.of_eq (by first | omega | simpa)) ?_)); done) (by (repeat (first | exact .refl _ | exact .nil _ | apply ItLe2.cons (by first | exact .here | exact k1 | exact k2 | exact k3 | exact k4 | exact k5 | exact k6 | exact k7 | exact k8 | exact k9 | exact k10 | exact k11 | exact k12 | exact k13) | apply ItLe2.cells (by first | exact .here | exact k1 | exact k2 | exact k3 | exact k4 | exact k5 | exact k6 | exact k7 | exact k8 | exact k9 | exact k10 | exact k11 | exact k12 | exact k13) (by repeat (first | exact .nil | refine .cons (by first | exact AV.Imp.refl _ | exact Sl.imp | exact AV.Imp.agg RowOf.imp | exact AV.Imp.grow_sl | exact AV.Imp.nil_grow | exact AV.Imp.full_grow | exact AV.Imp.own_grow | exact AV.Imp.grow_of rfl | exact AV.Imp.sl_of rfl | exact AV.Imp.int_of (by omega) | exact AV.Imp.of_eq (by first | omega | simpa)) ?_)) | apply ItLe2.tail0)); done)
      · kernel_rfl
    · skip
      try simp only [decide_eq_true_eq, decide_eq_false_iff_not, Bool.not_eq_true', Bool.not_eq_false', Bool.not_eq_true, Bool.not_eq_false, List.length_map, Int.ofNat_lt, Int.ofNat_le, Bool.or_eq_true, Bool.and_eq_true, Bool.or_eq_false_iff, Bool.and_eq_false_iff] at h2
      have hq0e := h2
      refine awx_exit ?_
      refine awx_seq ?_
      have hdd : d = Dg.dist g t := by
        obtain rfl : q0 = [] := by
          cases q0 with
          | nil => rfl
          | cons a b => simp at hq0e
        rw [← hbf, Dg.bfs_nil]
      subst hdd
      refine awx_weak (Weak.items2 (st' := .cells nd (((Dg.distL g t).map encI).flatten ++ []) :: markIts ms1) (.cells .here ?_ (.sub (.cons _ (.cons _ (.refl _)))))) ?_
      · rw [List.append_nil]; exact ImpL.of_eq (ea_row (fun b => AV.int b) g.n.toNat (Dg.dist g t)).symm
      refine awx_region rfl ?_
      refine st_p (fun _ => by exact y_move (.plain rfl)) rfl ?_
      refine st_p (fun _ => by exact y_assign (.plain rfl)) rfl ?_
      refine aops_nil ?_
      refine awx_ret ?_
      exact retX (.inr rfl) (List.perm_append_comm (l₁ := [_])) (.cons (.tmp rfl) .nil) (VShift.freezeR (xs := (Dg.distL g t).map encI) (by rw [List.length_map, Dg.distL, bl_len]) (by simp [encI]) (.cons .here (.nil _))) ⟨rfl, rfl⟩

end Go.Proofs
