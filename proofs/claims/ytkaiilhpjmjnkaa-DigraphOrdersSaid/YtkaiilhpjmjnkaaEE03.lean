/- The reference: Cycle, Ranks, Closure. -/
import Derived.Test.YtkaiilhpjmjnkaaBB03
import Derived.Test.YtkaiilhpjmjnkaaZ03
set_option linter.unusedVariables false
set_option linter.unusedSimpArgs false
set_option maxRecDepth 10000
namespace Go.Proofs
open Go.Aw Wl Dg
theorem cycleR_c (n : Int) (l : List Dg.Ed) (hl : l.length ≤ 1000000) : ACalls Try.prog 30 [(AV.int n), (AV.sl 2 (List.map encE l))] [] (fun v st => v = (AV.tup [(AV.sl 1 (List.map encI (((Dg.cycL n l, Dg.cycE n l)).1))), (AV.int (((Dg.cycL n l, Dg.cycE n l)).2))]) ∧ st = []) := by
  refine acalls_body Try.func30 (by kernel_rfl) rfl Try.ntmps30 (le_ rfl) ?_
  rw [Try.results30]
  refine awp_seq ?_
  refine awp_region ?_
  refine st_p (fun _ => by exact y_assign (.plain rfl)) rfl ?_
  refine st_p (fun _ => by exact y_assign (.plain rfl)) rfl ?_
  refine aops_nil ?_
  refine awp_seq ?_
  refine awp_seq ?_
  refine awp_region ?_
  refine st_p (fun _ => by exact y_move (.plain rfl)) rfl ?_
  refine st_p (fun _ => by exact y_move (.plain rfl)) rfl ?_
  refine aops_call (blt_lt rfl) (.plain rfl) (.cons (.plain rfl) (.cons (.imp (.plain rfl) (Sl.imp (enc := encE))) .nil)) (ACalls.here (chkR_c _ _ (by first | assumption | omega | (simp; omega) | (simp; done) | decide +kernel | (simp_all; omega))) ?_)
  refine st_p (fun _ => by exact y_neq (.plain rfl) (.plain rfl)) rfl ?_
  refine aops_nil ?_
  refine awp_cond rfl (fun h1 => ?_) (fun h1 => ?_)
  · skip
    try simp only [decide_eq_true_eq, decide_eq_false_iff_not, Bool.not_eq_true', Bool.not_eq_false', Bool.not_eq_true, Bool.not_eq_false, List.length_map, Int.ofNat_lt, Int.ofNat_le, Bool.or_eq_true, Bool.and_eq_true, Bool.or_eq_false_iff, Bool.and_eq_false_iff] at h1
    refine awp_seq ?_
    refine awp_region ?_
    refine st_p (fun _ => by exact y_buildSlice .nil rfl (le_ rfl)) rfl ?_
    refine st_p (fun _ => by exact y_assign (.plain rfl)) rfl ?_
    refine st_p (fun _ => by exact y_assign (.plain rfl)) rfl ?_
    refine aops_nil ?_
    refine awp_ret ?_
    refine retG (.inr rfl) (.cons (.tmp rfl) (.cons (.tmp rfl) .nil)) (VShift.of2 (AV.Imp.tup (.cons (Sl.imp (enc := encI)) (.cons (AV.Imp.refl _) .nil))) (.nil _)) ⟨congrArg (fun x : (List (Int)) × (Int) => (AV.tup [(AV.sl 1 (List.map encI x.1)), (AV.int x.2)])) (show (_, _) = ((Dg.cycL n l, Dg.cycE n l)) from ?_), rfl⟩
    rw [Dg.cycL, Dg.cycE, if_pos (by omega), if_pos (by omega)]
  · skip
    try simp only [decide_eq_true_eq, decide_eq_false_iff_not, Bool.not_eq_true', Bool.not_eq_false', Bool.not_eq_true, Bool.not_eq_false, List.length_map, Int.ofNat_lt, Int.ofNat_le, Bool.or_eq_true, Bool.and_eq_true, Bool.or_eq_false_iff, Bool.and_eq_false_iff] at h1
    have hck : Dg.chk n l = 0 := by omega
    have hnb := (Dg.okE hck).nb
    refine awp_skip ?_
    refine awp_seq ?_
    refine awp_region ?_
    refine st_p (fun _ => by exact y_buildSlice .nil rfl (le_ rfl)) rfl ?_
    refine st_p (fun _ => by exact y_assign (.plain rfl)) rfl ?_
    refine aops_nil ?_
    refine awp_seq ?_
    refine awp_seq ?_
    refine awp_region ?_
    refine st_p (fun _ => by exact y_assign (.plain rfl)) rfl ?_
    refine aops_nil ?_
    refine awp_block ?_
    refine awp_loop2 (X := Nat) [0, 1] (.cons rfl (.cons rfl .nil)) (fun σ x => ((6, .sl 1 ((Dg.best (Dg.around (Dg.gr n l)) x).map encI)) : Nat × AV) :: ((7, .int (x : Int)) : Nat × AV) :: σ) (fun R x => R) (fun x => x ≤ n.toNat) (fun x => n.toNat - x) 0 (by exact Weak.of2 (by (repeat (first | exact .nil _ | refine .cons rfl (by first | exact AV.Imp.refl _ | exact Sl.imp | exact AV.Imp.agg RowOf.imp | exact AV.Imp.grow_sl | exact AV.Imp.nil_grow | exact AV.Imp.full_grow | exact AV.Imp.own_grow | exact AV.Imp.grow_of rfl | exact AV.Imp.sl_of rfl | exact AV.Imp.int_of (by omega) | exact AV.Imp.of_eq (by first | omega | simpa)) ?_)); done) (by (repeat (first | exact .refl _ | exact .nil _ | apply ItLe2.cons (by first | exact .here | exact k1 | exact k2 | exact k3 | exact k4 | exact k5 | exact k6 | exact k7 | exact k8 | exact k9 | exact k10 | exact k11 | exact k12 | exact k13) | apply ItLe2.cells (by first | exact .here | exact k1 | exact k2 | exact k3 | exact k4 | exact k5 | exact k6 | exact k7 | exact k8 | exact k9 | exact k10 | exact k11 | exact k12 | exact k13) (by repeat (first | exact .nil | refine .cons (by first | exact AV.Imp.refl _ | exact Sl.imp | exact AV.Imp.agg RowOf.imp | exact AV.Imp.grow_sl | exact AV.Imp.nil_grow | exact AV.Imp.full_grow | exact AV.Imp.own_grow | exact AV.Imp.grow_of rfl | exact AV.Imp.sl_of rfl | exact AV.Imp.int_of (by omega) | exact AV.Imp.of_eq (by first | omega | simpa)) ?_)) | apply ItLe2.tail0)); done)) (Nat.zero_le _) ?_
    rintro k hk
    refine awp_seq ?_
    refine awp_seq ?_
    refine awp_region ?_
    refine st_p (fun _ => by exact y_move (.plain rfl)) rfl ?_
    refine st_p (fun _ => by exact y_move (.plain rfl)) rfl ?_
    refine st_p (fun _ => by exact y_lss (.plain rfl) (.plain rfl)) rfl ?_
    refine aops_nil ?_
    refine awp_cond rfl (fun h2 => ?_) (fun h2 => ?_)
    · skip
      try simp only [decide_eq_true_eq, decide_eq_false_iff_not, Bool.not_eq_true', Bool.not_eq_false', Bool.not_eq_true, Bool.not_eq_false, List.length_map, Int.ofNat_lt, Int.ofNat_le, Bool.or_eq_true, Bool.and_eq_true, Bool.or_eq_false_iff, Bool.and_eq_false_iff] at h2
      refine awp_skip ?_
      refine awp_seq ?_
      refine awp_block ?_
      refine awp_seq ?_
      refine awp_region ?_
      refine st_p (fun _ => by exact y_move (.plain rfl)) rfl ?_
      refine st_p (fun _ => by exact y_move (.plain rfl)) rfl ?_
      refine st_p (fun _ => by exact y_move (.plain rfl)) rfl ?_
      refine aops_call (blt_lt rfl) (.plain rfl) (.cons (.plain rfl) (.cons (.imp (.plain rfl) (Sl.imp (enc := encE))) (.cons (.plain rfl) .nil))) (ACalls.here (aroundR_c n l (k : Int) hck ⟨by omega, by omega⟩) ?_)
      refine st_p (fun _ => by exact y_assign (.plain rfl)) rfl ?_
      refine aops_nil ?_
      refine awp_seq ?_
      refine awp_region ?_
      refine st_p (fun _ => by exact y_move (.plain rfl)) rfl ?_
      first | refine st_p (fun _ => by exact y_lenN (.plain rfl)) rfl ?_ | refine st_p (fun _ => by exact y_len (.plain rfl)) rfl ?_ | refine st_p (fun _ => by exact y_lenArr (.plain rfl)) rfl ?_
      refine st_p (fun _ => by exact y_gtr (.plain rfl) (.plain rfl)) rfl ?_
      refine st_p (fun _ => by exact y_move (.plain rfl)) rfl ?_
      refine st_g rfl rfl rfl SaysI.out (fun hc _ => by exact y_move (.plain rfl)) rfl ?_
      first | refine st_g rfl rfl rfl SaysI.out (fun hc _ => by exact y_lenN (.opt rfl hc)) rfl ?_ | refine st_g rfl rfl rfl SaysI.out (fun hc _ => by exact y_len (.opt rfl hc)) rfl ?_ | refine st_g rfl rfl rfl SaysI.out (fun hc _ => by exact y_lenArr (.opt rfl hc)) rfl ?_
      refine st_g rfl rfl rfl SaysI.out (fun hc _ => by exact y_eql (.opt rfl hc) (.plain rfl)) rfl ?_
      refine st_g rfl rfl rfl SaysI.out (fun hc _ => by exact y_move (.opt rfl hc)) rfl ?_
      refine st_g rfl rfl rfl SaysI.out (fun hc _ => by exact y_move (.plain rfl)) rfl ?_
      first | refine st_g rfl rfl rfl SaysI.out (fun hc _ => by exact y_lenN (.opt rfl hc)) rfl ?_ | refine st_g rfl rfl rfl SaysI.out (fun hc _ => by exact y_len (.opt rfl hc)) rfl ?_ | refine st_g rfl rfl rfl SaysI.out (fun hc _ => by exact y_lenArr (.opt rfl hc)) rfl ?_
      refine st_g rfl rfl rfl SaysI.out (fun hc _ => by exact y_move (.plain rfl)) rfl ?_
      first | refine st_g rfl rfl rfl SaysI.out (fun hc _ => by exact y_lenN (.opt rfl hc)) rfl ?_ | refine st_g rfl rfl rfl SaysI.out (fun hc _ => by exact y_len (.opt rfl hc)) rfl ?_ | refine st_g rfl rfl rfl SaysI.out (fun hc _ => by exact y_lenArr (.opt rfl hc)) rfl ?_
      refine st_g rfl rfl rfl SaysI.out (fun hc _ => by exact y_lss (.opt rfl hc) (.opt rfl hc)) rfl ?_
      first | refine st_g rfl rfl rfl SaysI.out (fun hc _ => by exact y_or' hc (.opt rfl hc) rfl rfl) rfl ?_ | refine st_g rfl rfl rfl SaysI.out (fun hc _ => by exact y_or (.opt rfl hc) rfl rfl) rfl ?_
      refine st_p (fun _ => by exact y_and (.plain rfl) rfl rfl) rfl ?_
      refine aops_nil ?_
      refine awp_cond rfl (fun h3 => ?_) (fun h3 => ?_)
      · skip
        try simp only [decide_eq_true_eq, decide_eq_false_iff_not, Bool.not_eq_true', Bool.not_eq_false', Bool.not_eq_true, Bool.not_eq_false, List.length_map, Int.ofNat_lt, Int.ofNat_le, Bool.or_eq_true, Bool.and_eq_true, Bool.or_eq_false_iff, Bool.and_eq_false_iff] at h3
        have hbs : Dg.best (Dg.around (Dg.gr n l)) (k + 1) = (Dg.around (Dg.gr n l) (k : Int)) := by rw [Dg.best, if_pos ⟨by omega, by omega⟩]
        refine awp_region ?_
        refine st_p (fun _ => by exact y_move (.plain rfl)) rfl ?_
        refine st_p (fun _ => by exact y_assign (.plain rfl)) rfl ?_
        refine aops_nil ?_
        refine awp_region ?_
        refine st_p (fun _ => by exact y_move (.plain rfl)) rfl ?_
        refine st_p (fun _ => by exact y_add (.plain rfl) (.plain rfl) (by first | omega | (simp; omega) | (simp at hc; omega) | (simp at hc ⊢; omega) | (simp; done))) rfl ?_
        refine st_p (fun _ => by exact y_assign (.plain rfl)) rfl ?_
        refine aops_nil ?_
        refine ⟨k + 1, by omega, by omega, ?_⟩
        rw [hbs]
        exact Weak.of2 (by (repeat (first | exact .nil _ | refine .cons rfl (by first | exact AV.Imp.refl _ | exact Sl.imp | exact AV.Imp.agg RowOf.imp | exact AV.Imp.grow_sl | exact AV.Imp.nil_grow | exact AV.Imp.full_grow | exact AV.Imp.own_grow | exact AV.Imp.grow_of rfl | exact AV.Imp.sl_of rfl | exact AV.Imp.int_of (by omega) | exact AV.Imp.of_eq (by first | omega | simpa)) ?_)); done) (by (repeat (first | exact .refl _ | exact .nil _ | apply ItLe2.cons (by first | exact .here | exact k1 | exact k2 | exact k3 | exact k4 | exact k5 | exact k6 | exact k7 | exact k8 | exact k9 | exact k10 | exact k11 | exact k12 | exact k13) | apply ItLe2.cells (by first | exact .here | exact k1 | exact k2 | exact k3 | exact k4 | exact k5 | exact k6 | exact k7 | exact k8 | exact k9 | exact k10 | exact k11 | exact k12 | exact k13) (by repeat (first | exact .nil | refine .cons (by first | exact AV.Imp.refl _ | exact Sl.imp | exact AV.Imp.agg RowOf.imp | exact AV.Imp.grow_sl | exact AV.Imp.nil_grow | exact AV.Imp.full_grow | exact AV.Imp.own_grow | exact AV.Imp.grow_of rfl | exact AV.Imp.sl_of rfl | exact AV.Imp.int_of (by omega) | exact AV.Imp.of_eq (by first | omega | simpa)) ?_)) | apply ItLe2.tail0)); done)
      · skip
        try simp only [decide_eq_true_eq, decide_eq_false_iff_not, Bool.not_eq_true', Bool.not_eq_false', Bool.not_eq_true, Bool.not_eq_false, List.length_map, Int.ofNat_lt, Int.ofNat_le, Bool.or_eq_true, Bool.and_eq_true, Bool.or_eq_false_iff, Bool.and_eq_false_iff] at h3
        have hbs : Dg.best (Dg.around (Dg.gr n l)) (k + 1) = (Dg.best (Dg.around (Dg.gr n l)) k) := by rw [Dg.best, if_neg (fun ⟨a, b⟩ => by omega)]
        refine awp_skip ?_
        refine awp_region ?_
        refine st_p (fun _ => by exact y_move (.plain rfl)) rfl ?_
        refine st_p (fun _ => by exact y_add (.plain rfl) (.plain rfl) (by first | omega | (simp; omega) | (simp at hc; omega) | (simp at hc ⊢; omega) | (simp; done))) rfl ?_
        refine st_p (fun _ => by exact y_assign (.plain rfl)) rfl ?_
        refine aops_nil ?_
        refine ⟨k + 1, by omega, by omega, ?_⟩
        rw [hbs]
        exact Weak.of2 (by (repeat (first | exact .nil _ | refine .cons rfl (by first | exact AV.Imp.refl _ | exact Sl.imp | exact AV.Imp.agg RowOf.imp | exact AV.Imp.grow_sl | exact AV.Imp.nil_grow | exact AV.Imp.full_grow | exact AV.Imp.own_grow | exact AV.Imp.grow_of rfl | exact AV.Imp.sl_of rfl | exact AV.Imp.int_of (by omega) | exact AV.Imp.of_eq (by first | omega | simpa)) ?_)); done) (by (repeat (first | exact .refl _ | exact .nil _ | apply ItLe2.cons (by first | exact .here | exact k1 | exact k2 | exact k3 | exact k4 | exact k5 | exact k6 | exact k7 | exact k8 | exact k9 | exact k10 | exact k11 | exact k12 | exact k13) | apply ItLe2.cells (by first | exact .here | exact k1 | exact k2 | exact k3 | exact k4 | exact k5 | exact k6 | exact k7 | exact k8 | exact k9 | exact k10 | exact k11 | exact k12 | exact k13) (by repeat (first | exact .nil | refine .cons (by first | exact AV.Imp.refl _ | exact Sl.imp | exact AV.Imp.agg RowOf.imp | exact AV.Imp.grow_sl | exact AV.Imp.nil_grow | exact AV.Imp.full_grow | exact AV.Imp.own_grow | exact AV.Imp.grow_of rfl | exact AV.Imp.sl_of rfl | exact AV.Imp.int_of (by omega) | exact AV.Imp.of_eq (by first | omega | simpa)) ?_)) | apply ItLe2.tail0)); done)
    · skip
      try simp only [decide_eq_true_eq, decide_eq_false_iff_not, Bool.not_eq_true', Bool.not_eq_false', Bool.not_eq_true, Bool.not_eq_false, List.length_map, Int.ofNat_lt, Int.ofNat_le, Bool.or_eq_true, Bool.and_eq_true, Bool.or_eq_false_iff, Bool.and_eq_false_iff] at h2
      obtain rfl : k = n.toNat := by omega
      refine awp_exit ?_
      refine awp_seq ?_
      refine awp_seq ?_
      refine awp_region ?_
      refine st_p (fun _ => by exact y_move (.plain rfl)) rfl ?_
      first | refine st_p (fun _ => by exact y_lenN (.plain rfl)) rfl ?_ | refine st_p (fun _ => by exact y_len (.plain rfl)) rfl ?_ | refine st_p (fun _ => by exact y_lenArr (.plain rfl)) rfl ?_
      refine st_p (fun _ => by exact y_eql (.plain rfl) (.plain rfl)) rfl ?_
      refine aops_nil ?_
      refine awp_cond rfl (fun h4 => ?_) (fun h4 => ?_)
      · skip
        try simp only [decide_eq_true_eq, decide_eq_false_iff_not, Bool.not_eq_true', Bool.not_eq_false', Bool.not_eq_true, Bool.not_eq_false, List.length_map, Int.ofNat_lt, Int.ofNat_le, Bool.or_eq_true, Bool.and_eq_true, Bool.or_eq_false_iff, Bool.and_eq_false_iff] at h4
        refine awp_seq ?_
        refine awp_region ?_
        refine st_p (fun _ => by exact y_move (.plain rfl)) rfl ?_
        refine st_p (fun _ => by exact y_assign (.plain rfl)) rfl ?_
        refine st_p (fun _ => by exact y_assign (.plain rfl)) rfl ?_
        refine aops_nil ?_
        refine awp_ret ?_
        refine retG (.inr rfl) (.cons (.tmp rfl) (.cons (.tmp rfl) .nil)) (VShift.of2 (AV.Imp.tup (.cons (Sl.imp (enc := encI)) (.cons (AV.Imp.refl _) .nil))) (.nil _)) ⟨congrArg (fun x : (List (Int)) × (Int) => (AV.tup [(AV.sl 1 (List.map encI x.1)), (AV.int x.2)])) (show (_, _) = ((Dg.cycL n l, Dg.cycE n l)) from ?_), rfl⟩
        rw [Dg.cycL, Dg.cycE, if_neg (by omega), if_neg (by omega), if_pos (by omega)]
      · skip
        try simp only [decide_eq_true_eq, decide_eq_false_iff_not, Bool.not_eq_true', Bool.not_eq_false', Bool.not_eq_true, Bool.not_eq_false, List.length_map, Int.ofNat_lt, Int.ofNat_le, Bool.or_eq_true, Bool.and_eq_true, Bool.or_eq_false_iff, Bool.and_eq_false_iff] at h4
        refine awp_skip ?_
        refine awp_seq ?_
        refine awp_region ?_
        refine st_p (fun _ => by exact y_move (.plain rfl)) rfl ?_
        refine st_p (fun _ => by exact y_assign (.plain rfl)) rfl ?_
        refine st_p (fun _ => by exact y_assign (.plain rfl)) rfl ?_
        refine aops_nil ?_
        refine awp_ret ?_
        refine retG (.inr rfl) (.cons (.tmp rfl) (.cons (.tmp rfl) .nil)) (VShift.of2 (AV.Imp.tup (.cons (Sl.imp (enc := encI)) (.cons (AV.Imp.refl _) .nil))) (.nil _)) ⟨congrArg (fun x : (List (Int)) × (Int) => (AV.tup [(AV.sl 1 (List.map encI x.1)), (AV.int x.2)])) (show (_, _) = ((Dg.cycL n l, Dg.cycE n l)) from ?_), rfl⟩
        rw [Dg.cycL, Dg.cycE, if_neg (by omega), if_neg (by omega), if_neg (by omega)]

theorem ranksR_c (n : Int) (l : List Dg.Ed) (hl : l.length ≤ 1000000) : ACalls Try.prog 31 [(AV.int n), (AV.sl 2 (List.map encE l))] [] (fun v st => v = (AV.tup [(AV.sl 1 (List.map encI (((Dg.rankL n l, Dg.rankE n l)).1))), (AV.int (((Dg.rankL n l, Dg.rankE n l)).2))]) ∧ st = []) := by
  refine acalls_body Try.func31 (by kernel_rfl) rfl Try.ntmps31 (le_ rfl) ?_
  rw [Try.results31]
  refine awp_seq ?_
  refine awp_region ?_
  refine st_p (fun _ => by exact y_assign (.plain rfl)) rfl ?_
  refine st_p (fun _ => by exact y_assign (.plain rfl)) rfl ?_
  refine aops_nil ?_
  refine awp_seq ?_
  refine awp_region ?_
  refine st_p (fun _ => by exact y_move (.plain rfl)) rfl ?_
  refine st_p (fun _ => by exact y_move (.plain rfl)) rfl ?_
  refine aops_call (blt_lt rfl) (.plain rfl) (.cons (.plain rfl) (.cons (.imp (.plain rfl) (Sl.imp (enc := encE))) .nil)) (ACalls.here (orderR_c n l hl) ?_)
  refine st_p (fun _ => by exact y_move (.plain rfl)) rfl ?_
  refine st_p (fun _ => by exact y_extract (.plain rfl) rfl) rfl ?_
  refine st_p (fun _ => by exact y_extract (.plain rfl) rfl) rfl ?_
  refine st_p (fun _ => by exact y_assign (.plain rfl)) rfl ?_
  refine st_p (fun _ => by exact y_assign (.plain rfl)) rfl ?_
  refine aops_nil ?_
  refine awp_seq ?_
  refine awp_seq ?_
  refine awp_region ?_
  refine st_p (fun _ => by exact y_move (.plain rfl)) rfl ?_
  refine st_p (fun _ => by exact y_neq (.plain rfl) (.plain rfl)) rfl ?_
  refine aops_nil ?_
  refine awp_cond rfl (fun h1 => ?_) (fun h1 => ?_)
  · skip
    try simp only [decide_eq_true_eq, decide_eq_false_iff_not, Bool.not_eq_true', Bool.not_eq_false', Bool.not_eq_true, Bool.not_eq_false, List.length_map, Int.ofNat_lt, Int.ofNat_le, Bool.or_eq_true, Bool.and_eq_true, Bool.or_eq_false_iff, Bool.and_eq_false_iff] at h1
    refine awp_seq ?_
    refine awp_region ?_
    refine st_p (fun _ => by exact y_buildSlice .nil rfl (le_ rfl)) rfl ?_
    refine st_p (fun _ => by exact y_move (.plain rfl)) rfl ?_
    refine st_p (fun _ => by exact y_assign (.plain rfl)) rfl ?_
    refine st_p (fun _ => by exact y_assign (.plain rfl)) rfl ?_
    refine aops_nil ?_
    refine awp_ret ?_
    exact retG (.inr rfl) (.cons (.tmp rfl) (.cons (.tmp rfl) .nil)) (VShift.of2 (AV.Imp.tup (.cons (Sl.imp (enc := encI) (l := ([] : List Int))) (.cons (AV.Imp.refl _) .nil))) (.nil _)) ⟨by rw [Dg.rankL, Dg.rankE, if_pos (by assumption)], rfl⟩
  · skip
    try simp only [decide_eq_true_eq, decide_eq_false_iff_not, Bool.not_eq_true', Bool.not_eq_false', Bool.not_eq_true, Bool.not_eq_false, List.length_map, Int.ofNat_lt, Int.ofNat_le, Bool.or_eq_true, Bool.and_eq_true, Bool.or_eq_false_iff, Bool.and_eq_false_iff] at h1
    have he0 : Dg.orderE n l = 0 := by omega
    obtain ⟨hob, hol⟩ := Dg.order_bd he0
    have hck := (Dg.orderE_zero he0).1
    have hok := Dg.okE hck
    have hG := Dg.okG hok
    have hnb := hok.nb
    have hlen := hok.len
    refine awp_skip ?_
    refine awp_seq ?_
    refine awp_region ?_
    refine st_p (fun _ => by exact y_move (.plain rfl)) rfl ?_
    refine st_n (fun _ => by exact y_makeArr (by rfl) (.plain rfl) (.plain rfl) (Int.toNat_of_nonneg (a := n) (by omega)).symm (by omega)) rfl fun nj => ?_
    refine st_p (fun _ => by exact y_assign (.plain rfl)) rfl ?_
    refine aops_nil ?_
    refine awp_seq ?_
    refine awp_seq ?_
    refine awp_region ?_
    refine st_p (fun _ => by exact y_assign (.plain rfl)) rfl ?_
    refine aops_nil ?_
    refine awp_block ?_
    refine awp_loop2 (X := Nat) [0, 1, 6, 8] (.cons rfl (.cons rfl (.cons rfl (.cons rfl .nil)))) (fun σ x => ((9, .int (x : Int)) : Nat × AV) :: σ) (fun R x => .cells nj (ea n.toNat (fun j => .int (Dg.rkF (Dg.gr n l) (Dg.orderL n l) x j))) :: R) (fun x => x ≤ n.toNat) (fun x => n.toNat - x) 0 (by exact Weak.of2 (by (repeat (first | exact .nil _ | refine .cons rfl (by first | exact AV.Imp.refl _ | exact Sl.imp | exact AV.Imp.agg RowOf.imp | exact AV.Imp.grow_sl | exact AV.Imp.nil_grow | exact AV.Imp.full_grow | exact AV.Imp.own_grow | exact AV.Imp.grow_of rfl | exact AV.Imp.sl_of rfl | exact AV.Imp.int_of (by omega) | exact AV.Imp.of_eq (by first | omega | simpa)) ?_)); done) (.cells .here (by rw [ea_make]; exact ImpL.refl _) (.nil _))) (Nat.zero_le _) ?_
    rintro i hi
    refine awp_seq ?_
    refine awp_seq ?_
    refine awp_region ?_
    refine st_p (fun _ => by exact y_move (.plain rfl)) rfl ?_
    refine st_p (fun _ => by exact y_move (.plain rfl)) rfl ?_
    refine st_p (fun _ => by exact y_lss (.plain rfl) (.plain rfl)) rfl ?_
    refine aops_nil ?_
    refine awp_cond rfl (fun h2 => ?_) (fun h2 => ?_)
    · skip
      try simp only [decide_eq_true_eq, decide_eq_false_iff_not, Bool.not_eq_true', Bool.not_eq_false', Bool.not_eq_true, Bool.not_eq_false, List.length_map, Int.ofNat_lt, Int.ofNat_le, Bool.or_eq_true, Bool.and_eq_true, Bool.or_eq_false_iff, Bool.and_eq_false_iff] at h2
      have hio : i < (Dg.orderL n l).length := by omega
      have hoi := hob _ (List.getElem_mem hio)
      refine awp_skip ?_
      refine awp_seq ?_
      refine awp_block ?_
      refine awp_seq ?_
      refine awp_region ?_
      refine st_p (fun _ => by exact y_assign (.plain rfl)) rfl ?_
      refine aops_nil ?_
      refine awp_block ?_
      refine awp_loop2 (X := Nat) [0, 1, 6, 8, 9] (.cons rfl (.cons rfl (.cons rfl (.cons rfl (.cons rfl .nil))))) (fun σ x => ((10, .int (x : Int)) : Nat × AV) :: σ) (fun R x => .cells nj (ea n.toNat (fun j => .int ((Dg.rkU (Dg.orderL n l)[i] (Dg.sc (l.take x) (Dg.orderL n l)[i]) (Dg.rkF (Dg.gr n l) (Dg.orderL n l) i)) j))) :: R) (fun x => x ≤ l.length) (fun x => l.length - x) 0 (by exact Weak.of2 (by (repeat (first | exact .nil _ | refine .cons rfl (by first | exact AV.Imp.refl _ | exact Sl.imp | exact AV.Imp.agg RowOf.imp | exact AV.Imp.grow_sl | exact AV.Imp.nil_grow | exact AV.Imp.full_grow | exact AV.Imp.own_grow | exact AV.Imp.grow_of rfl | exact AV.Imp.sl_of rfl | exact AV.Imp.int_of (by omega) | exact AV.Imp.of_eq (by first | omega | simpa)) ?_)); done) (by (repeat (first | exact .refl _ | exact .nil _ | apply ItLe2.cons (by first | exact .here | exact k1 | exact k2 | exact k3 | exact k4 | exact k5 | exact k6 | exact k7 | exact k8 | exact k9 | exact k10 | exact k11 | exact k12 | exact k13) | apply ItLe2.cells (by first | exact .here | exact k1 | exact k2 | exact k3 | exact k4 | exact k5 | exact k6 | exact k7 | exact k8 | exact k9 | exact k10 | exact k11 | exact k12 | exact k13) (by repeat (first | exact .nil | refine .cons (by first | exact AV.Imp.refl _ | exact Sl.imp | exact AV.Imp.agg RowOf.imp | exact AV.Imp.grow_sl | exact AV.Imp.nil_grow | exact AV.Imp.full_grow | exact AV.Imp.own_grow | exact AV.Imp.grow_of rfl | exact AV.Imp.sl_of rfl | exact AV.Imp.int_of (by omega) | exact AV.Imp.of_eq (by first | omega | simpa)) ?_)) | apply ItLe2.tail0)); done)) (Nat.zero_le _) ?_
      rintro k hk
      refine awp_seq ?_
      refine awp_seq ?_
      refine awp_region ?_
      refine st_p (fun _ => by exact y_move (.plain rfl)) rfl ?_
      refine st_p (fun _ => by exact y_move (.plain rfl)) rfl ?_
      first | refine st_p (fun _ => by exact y_lenN (.plain rfl)) rfl ?_ | refine st_p (fun _ => by exact y_len (.plain rfl)) rfl ?_ | refine st_p (fun _ => by exact y_lenArr (.plain rfl)) rfl ?_
      refine st_p (fun _ => by exact y_lss (.plain rfl) (.plain rfl)) rfl ?_
      refine aops_nil ?_
      refine awp_cond rfl (fun h3 => ?_) (fun h3 => ?_)
      · skip
        try simp only [decide_eq_true_eq, decide_eq_false_iff_not, Bool.not_eq_true', Bool.not_eq_false', Bool.not_eq_true, Bool.not_eq_false, List.length_map, Int.ofNat_lt, Int.ofNat_le, Bool.or_eq_true, Bool.and_eq_true, Bool.or_eq_false_iff, Bool.and_eq_false_iff] at h3
        have hvb := hok.v _ (List.getElem_mem (by assumption : k < l.length))
        have hrf := Dg.rkF_bd hG (Dg.orderL n l) i (by omega)
        have hru := Dg.rkU_bd (Dg.orderL n l)[i] (Dg.sc (l.take k) (Dg.orderL n l)[i]) (Dg.rkF (Dg.gr n l) (Dg.orderL n l) i) (2000 * i) hrf
        have hsl := Dg.sc_len (l.take k) (Dg.orderL n l)[i]
        rw [List.length_take] at hsl
        have hru1 := hru (Dg.orderL n l)[i]
        have hru2 := hru l[k].v
        refine awp_skip ?_
        refine awp_seq ?_
        refine awp_block ?_
        refine awp_seq ?_
        have hio2 : i < (Dg.orderL n l).length := hio
        refine awp_any0 (ks := [.free, .free, .free, .free, .free, .free, .free, .free, .free, .free]) (by kernel_rfl) (fun K => ?_) ?_
        · skip
          refine dr_p (fun _ => by exact y_move (.plain rfl)) rfl ?_
          refine dr_p (fun _ => by exact y_move (.plain rfl)) rfl ?_
          first | refine dr_p (fun _ => by exact y_indexMap (.plain rfl) (.plain rfl) rfl (by refine ⟨?_, ?_⟩; (first | omega | (simp; omega) | (simp at hc; omega) | (simp at hc ⊢; omega) | (simp; done)); rfl)) rfl ?_ | refine dr_p (fun _ => by exact y_indexT (.plain rfl) (.plain rfl) (by first | omega | (simp; omega) | (simp at hc; omega) | (simp at hc ⊢; omega) | (simp; done)) (by first | omega | (simp; omega) | (simp at hc; omega) | (simp at hc ⊢; omega) | (simp; done))) rfl ?_ | refine dr_p (fun _ => by exact y_index (.plain rfl) (.plain rfl) (by omega) rfl) rfl ?_ | refine dr_p (fun _ => by exact y_indexArr (.plain rfl) (.plain rfl) rfl (by first | omega | (simp; omega) | (simp at hc; omega) | (simp at hc ⊢; omega) | (simp; done))) rfl ?_
          refine dr_p (fun _ => by exact y_fieldE (.plain rfl) (le_ rfl)) rfl ?_
          refine dr_p (fun _ => by exact y_loadE (.plain rfl) rfl) rfl ?_
          refine dr_p (fun _ => by exact y_move (.plain rfl)) rfl ?_
          refine dr_p (fun _ => by exact y_move (.plain rfl)) rfl ?_
          first | refine dr_p (fun _ => by exact y_indexMap (.plain rfl) (.plain rfl) rfl (by refine ⟨?_, ?_⟩; (first | omega | (simp; omega) | (simp at hc; omega) | (simp at hc ⊢; omega) | (simp; done)); rfl)) rfl ?_ | refine dr_p (fun _ => by exact y_indexT (.plain rfl) (.plain rfl) (by first | omega | (simp; omega) | (simp at hc; omega) | (simp at hc ⊢; omega) | (simp; done)) (by first | omega | (simp; omega) | (simp at hc; omega) | (simp at hc ⊢; omega) | (simp; done))) rfl ?_ | refine dr_p (fun _ => by exact y_index (.plain rfl) (.plain rfl) (by omega) rfl) rfl ?_ | refine dr_p (fun _ => by exact y_indexArr (.plain rfl) (.plain rfl) rfl (by first | omega | (simp; omega) | (simp at hc; omega) | (simp at hc ⊢; omega) | (simp; done))) rfl ?_
          refine dr_p (fun _ => by exact y_loadE (.plain rfl) rfl) rfl ?_
          refine dr_p (fun _ => by exact y_eql (.plain rfl) (.plain rfl)) rfl ?_
          refine dr_nil ⟨rfl, ?_⟩
          refine awp_cond rfl (fun h4 => ?_) (fun h4 => ?_)
          · skip
            try simp only [decide_eq_true_eq, decide_eq_false_iff_not, Bool.not_eq_true', Bool.not_eq_false', Bool.not_eq_true, Bool.not_eq_false, List.length_map, Int.ofNat_lt, Int.ofNat_le, Bool.or_eq_true, Bool.and_eq_true, Bool.or_eq_false_iff, Bool.and_eq_false_iff] at h4
            have hsc := Dg.sc_succ (by assumption : k < l.length) (Dg.orderL n l)[i]
            rw [if_pos h4.symm] at hsc
            have hrs := Dg.rkU_snoc (Dg.orderL n l)[i] (Dg.sc (l.take k) (Dg.orderL n l)[i]) l[k].v (Dg.rkF (Dg.gr n l) (Dg.orderL n l) i)
            refine awp_anyT (ks := [.free, .free, .free, .free, .free, .free, .free, .free, .free, .free, .free, .free, .free, .read, .free, .free, .free, .free, .free, .free, .read, .free, .free, .free, .write]) [.cells nj _] (by apply Takes.cons (by first | exact .here | exact k1 | exact k2 | exact k3 | exact k4 | exact k5 | exact k6 | exact k7 | exact k8 | exact k9 | exact k10 | exact k11 | exact k12 | exact k13); exact .nil _) (by kernel_rfl) (fun K => ?_) ?_
            · skip
              refine dr_p (fun _ => by exact y_move (.plain rfl)) rfl ?_
              refine dr_p (fun _ => by exact y_move (.plain rfl)) rfl ?_
              refine dr_p (fun _ => by exact y_move (.plain rfl)) rfl ?_
              first | refine dr_p (fun _ => by exact y_indexMap (.plain rfl) (.plain rfl) rfl (by refine ⟨?_, ?_⟩; (first | omega | (simp; omega) | (simp at hc; omega) | (simp at hc ⊢; omega) | (simp; done)); rfl)) rfl ?_ | refine dr_p (fun _ => by exact y_indexT (.plain rfl) (.plain rfl) (by first | omega | (simp; omega) | (simp at hc; omega) | (simp at hc ⊢; omega) | (simp; done)) (by first | omega | (simp; omega) | (simp at hc; omega) | (simp at hc ⊢; omega) | (simp; done))) rfl ?_ | refine dr_p (fun _ => by exact y_index (.plain rfl) (.plain rfl) (by omega) rfl) rfl ?_ | refine dr_p (fun _ => by exact y_indexArr (.plain rfl) (.plain rfl) rfl (by first | omega | (simp; omega) | (simp at hc; omega) | (simp at hc ⊢; omega) | (simp; done))) rfl ?_
              refine dr_p (fun _ => by exact y_fieldE (.plain rfl) (le_ rfl)) rfl ?_
              refine dr_p (fun _ => by exact y_loadE (.plain rfl) rfl) rfl ?_
              refine dr_p (fun _ => by exact y_move (.plain rfl)) rfl ?_
              refine dr_p (fun _ => by exact y_move (.plain rfl)) rfl ?_
              refine dr_p (fun _ => by exact y_move (.plain rfl)) rfl ?_
              first | refine dr_p (fun _ => by exact y_indexMap (.plain rfl) (.plain rfl) rfl (by refine ⟨?_, ?_⟩; (first | omega | (simp; omega) | (simp at hc; omega) | (simp at hc ⊢; omega) | (simp; done)); rfl)) rfl ?_ | refine dr_p (fun _ => by exact y_indexT (.plain rfl) (.plain rfl) (by first | omega | (simp; omega) | (simp at hc; omega) | (simp at hc ⊢; omega) | (simp; done)) (by first | omega | (simp; omega) | (simp at hc; omega) | (simp at hc ⊢; omega) | (simp; done))) rfl ?_ | refine dr_p (fun _ => by exact y_index (.plain rfl) (.plain rfl) (by omega) rfl) rfl ?_ | refine dr_p (fun _ => by exact y_indexArr (.plain rfl) (.plain rfl) rfl (by first | omega | (simp; omega) | (simp at hc; omega) | (simp at hc ⊢; omega) | (simp; done))) rfl ?_
              refine dr_p (fun _ => by exact y_fieldE (.plain rfl) (le_ rfl)) rfl ?_
              refine dr_p (fun _ => by exact y_loadE (.plain rfl) rfl) rfl ?_
              refine dr_p (fun _ => by exact y_indexArr (.plain rfl) (.plain rfl) (Int.toNat_of_nonneg hvb.1).symm (by omega)) rfl ?_
              refine dr_r (fun _ => by exact y_load (.plain rfl) .here (ea_get _ ⟨hvb.1, by omega⟩)) rfl ?_
              refine dr_p (fun _ => by exact y_move (.plain rfl)) rfl ?_
              refine dr_p (fun _ => by exact y_move (.plain rfl)) rfl ?_
              refine dr_p (fun _ => by exact y_move (.plain rfl)) rfl ?_
              first | refine dr_p (fun _ => by exact y_indexMap (.plain rfl) (.plain rfl) rfl (by refine ⟨?_, ?_⟩; (first | omega | (simp; omega) | (simp at hc; omega) | (simp at hc ⊢; omega) | (simp; done)); rfl)) rfl ?_ | refine dr_p (fun _ => by exact y_indexT (.plain rfl) (.plain rfl) (by first | omega | (simp; omega) | (simp at hc; omega) | (simp at hc ⊢; omega) | (simp; done)) (by first | omega | (simp; omega) | (simp at hc; omega) | (simp at hc ⊢; omega) | (simp; done))) rfl ?_ | refine dr_p (fun _ => by exact y_index (.plain rfl) (.plain rfl) (by omega) rfl) rfl ?_ | refine dr_p (fun _ => by exact y_indexArr (.plain rfl) (.plain rfl) rfl (by first | omega | (simp; omega) | (simp at hc; omega) | (simp at hc ⊢; omega) | (simp; done))) rfl ?_
              refine dr_p (fun _ => by exact y_loadE (.plain rfl) rfl) rfl ?_
              refine dr_p (fun _ => by exact y_indexArr (.plain rfl) (.plain rfl) (Int.toNat_of_nonneg hoi.1).symm (by omega)) rfl ?_
              refine dr_r (fun _ => by exact y_load (.plain rfl) .here (ea_get _ ⟨hoi.1, by omega⟩)) rfl ?_
              refine dr_p (fun _ => by exact y_add (.plain rfl) (.plain rfl) (by first | omega | (simp; omega) | (simp at hc; omega) | (simp at hc ⊢; omega) | (simp; done))) rfl ?_
              refine dr_p (fun _ => by exact y_max (.plain rfl) (.plain rfl)) rfl ?_
              refine dr_p (fun _ => by exact y_indexArr (.plain rfl) (.plain rfl) (Int.toNat_of_nonneg hvb.1).symm (by omega)) rfl ?_
              refine dr_s (fun _ => by exact y_store (by rfl) rfl (.plain rfl) (.plain rfl) .here (by rw [ea_len]; simp; omega)) ?_
              refine dr_nil ?_
              refine awp_region ?_
              refine st_p (fun _ => by exact y_move (.plain rfl)) rfl ?_
              refine st_p (fun _ => by exact y_add (.plain rfl) (.plain rfl) (by first | omega | (simp; omega) | (simp at hc; omega) | (simp at hc ⊢; omega) | (simp; done))) rfl ?_
              refine st_p (fun _ => by exact y_assign (.plain rfl)) rfl ?_
              refine aops_nil ?_
              refine ⟨k + 1, by omega, by omega, ?_⟩
              rw [ea_setI (f := (Dg.rkU (Dg.orderL n l)[i] (Dg.sc (l.take k) (Dg.orderL n l)[i]) (Dg.rkF (Dg.gr n l) (Dg.orderL n l) i))) _ ⟨hvb.1, by omega⟩, ← hrs, ← hsc]
              exact Weak.of2 (by (repeat (first | exact .nil _ | refine .cons rfl (by first | exact AV.Imp.refl _ | exact Sl.imp | exact AV.Imp.agg RowOf.imp | exact AV.Imp.grow_sl | exact AV.Imp.nil_grow | exact AV.Imp.full_grow | exact AV.Imp.own_grow | exact AV.Imp.grow_of rfl | exact AV.Imp.sl_of rfl | exact AV.Imp.int_of (by omega) | exact AV.Imp.of_eq (by first | omega | simpa)) ?_)); done) (by (repeat (first | exact .refl _ | exact .nil _ | apply ItLe2.cons (by first | exact .here | exact k1 | exact k2 | exact k3 | exact k4 | exact k5 | exact k6 | exact k7 | exact k8 | exact k9 | exact k10 | exact k11 | exact k12 | exact k13) | apply ItLe2.cells (by first | exact .here | exact k1 | exact k2 | exact k3 | exact k4 | exact k5 | exact k6 | exact k7 | exact k8 | exact k9 | exact k10 | exact k11 | exact k12 | exact k13) (by repeat (first | exact .nil | refine .cons (by first | exact AV.Imp.refl _ | exact Sl.imp | exact AV.Imp.agg RowOf.imp | exact AV.Imp.grow_sl | exact AV.Imp.nil_grow | exact AV.Imp.full_grow | exact AV.Imp.own_grow | exact AV.Imp.grow_of rfl | exact AV.Imp.sl_of rfl | exact AV.Imp.int_of (by omega) | exact AV.Imp.of_eq (by first | omega | simpa)) ?_)) | apply ItLe2.tail0)); done)
            · kernel_rfl
          · skip
            try simp only [decide_eq_true_eq, decide_eq_false_iff_not, Bool.not_eq_true', Bool.not_eq_false', Bool.not_eq_true, Bool.not_eq_false, List.length_map, Int.ofNat_lt, Int.ofNat_le, Bool.or_eq_true, Bool.and_eq_true, Bool.or_eq_false_iff, Bool.and_eq_false_iff] at h4
            have hsc := Dg.sc_succ (by assumption : k < l.length) (Dg.orderL n l)[i]
            rw [if_neg (Ne.symm h4)] at hsc
            refine awp_skip ?_
            refine awp_region ?_
            refine st_p (fun _ => by exact y_move (.plain rfl)) rfl ?_
            refine st_p (fun _ => by exact y_add (.plain rfl) (.plain rfl) (by first | omega | (simp; omega) | (simp at hc; omega) | (simp at hc ⊢; omega) | (simp; done))) rfl ?_
            refine st_p (fun _ => by exact y_assign (.plain rfl)) rfl ?_
            refine aops_nil ?_
            refine ⟨k + 1, by omega, by omega, ?_⟩
            rw [hsc]
            exact Weak.of2 (by (repeat (first | exact .nil _ | refine .cons rfl (by first | exact AV.Imp.refl _ | exact Sl.imp | exact AV.Imp.agg RowOf.imp | exact AV.Imp.grow_sl | exact AV.Imp.nil_grow | exact AV.Imp.full_grow | exact AV.Imp.own_grow | exact AV.Imp.grow_of rfl | exact AV.Imp.sl_of rfl | exact AV.Imp.int_of (by omega) | exact AV.Imp.of_eq (by first | omega | simpa)) ?_)); done) (by (repeat (first | exact .refl _ | exact .nil _ | apply ItLe2.cons (by first | exact .here | exact k1 | exact k2 | exact k3 | exact k4 | exact k5 | exact k6 | exact k7 | exact k8 | exact k9 | exact k10 | exact k11 | exact k12 | exact k13) | apply ItLe2.cells (by first | exact .here | exact k1 | exact k2 | exact k3 | exact k4 | exact k5 | exact k6 | exact k7 | exact k8 | exact k9 | exact k10 | exact k11 | exact k12 | exact k13) (by repeat (first | exact .nil | refine .cons (by first | exact AV.Imp.refl _ | exact Sl.imp | exact AV.Imp.agg RowOf.imp | exact AV.Imp.grow_sl | exact AV.Imp.nil_grow | exact AV.Imp.full_grow | exact AV.Imp.own_grow | exact AV.Imp.grow_of rfl | exact AV.Imp.sl_of rfl | exact AV.Imp.int_of (by omega) | exact AV.Imp.of_eq (by first | omega | simpa)) ?_)) | apply ItLe2.tail0)); done)
        · kernel_rfl
      · skip
        try simp only [decide_eq_true_eq, decide_eq_false_iff_not, Bool.not_eq_true', Bool.not_eq_false', Bool.not_eq_true, Bool.not_eq_false, List.length_map, Int.ofNat_lt, Int.ofNat_le, Bool.or_eq_true, Bool.and_eq_true, Bool.or_eq_false_iff, Bool.and_eq_false_iff] at h3
        obtain rfl : k = l.length := by omega
        rw [List.take_length, ← Dg.suc_gr hoi, ← Dg.rkF_succ _ _ hio]
        refine awp_exit ?_
        refine awp_region ?_
        refine st_p (fun _ => by exact y_move (.plain rfl)) rfl ?_
        refine st_p (fun _ => by exact y_add (.plain rfl) (.plain rfl) (by first | omega | (simp; omega) | (simp at hc; omega) | (simp at hc ⊢; omega) | (simp; done))) rfl ?_
        refine st_p (fun _ => by exact y_assign (.plain rfl)) rfl ?_
        refine aops_nil ?_
        refine ⟨i + 1, by omega, by omega, ?_⟩
        exact Weak.of2 (by (repeat (first | exact .nil _ | refine .cons rfl (by first | exact AV.Imp.refl _ | exact Sl.imp | exact AV.Imp.agg RowOf.imp | exact AV.Imp.grow_sl | exact AV.Imp.nil_grow | exact AV.Imp.full_grow | exact AV.Imp.own_grow | exact AV.Imp.grow_of rfl | exact AV.Imp.sl_of rfl | exact AV.Imp.int_of (by omega) | exact AV.Imp.of_eq (by first | omega | simpa)) ?_)); done) (by (repeat (first | exact .refl _ | exact .nil _ | apply ItLe2.cons (by first | exact .here | exact k1 | exact k2 | exact k3 | exact k4 | exact k5 | exact k6 | exact k7 | exact k8 | exact k9 | exact k10 | exact k11 | exact k12 | exact k13) | apply ItLe2.cells (by first | exact .here | exact k1 | exact k2 | exact k3 | exact k4 | exact k5 | exact k6 | exact k7 | exact k8 | exact k9 | exact k10 | exact k11 | exact k12 | exact k13) (by repeat (first | exact .nil | refine .cons (by first | exact AV.Imp.refl _ | exact Sl.imp | exact AV.Imp.agg RowOf.imp | exact AV.Imp.grow_sl | exact AV.Imp.nil_grow | exact AV.Imp.full_grow | exact AV.Imp.own_grow | exact AV.Imp.grow_of rfl | exact AV.Imp.sl_of rfl | exact AV.Imp.int_of (by omega) | exact AV.Imp.of_eq (by first | omega | simpa)) ?_)) | apply ItLe2.tail0)); done)
    · skip
      try simp only [decide_eq_true_eq, decide_eq_false_iff_not, Bool.not_eq_true', Bool.not_eq_false', Bool.not_eq_true, Bool.not_eq_false, List.length_map, Int.ofNat_lt, Int.ofNat_le, Bool.or_eq_true, Bool.and_eq_true, Bool.or_eq_false_iff, Bool.and_eq_false_iff] at h2
      obtain rfl : i = n.toNat := by omega
      refine awp_exit ?_
      refine awp_seq ?_
      refine awp_weak (Weak.items2 (st' := .cells nj (((bl n.toNat (Dg.rks (Dg.gr n l) (Dg.orderL n l))).map encI).flatten ++ []) :: []) (.cells .here ?_ (.nil _))) ?_
      · rw [List.append_nil, show Dg.rkF (Dg.gr n l) (Dg.orderL n l) n.toNat = Dg.rks (Dg.gr n l) (Dg.orderL n l) by rw [← hol]; exact Dg.rkF_all _ _]; exact ImpL.of_eq (ea_row (fun b => AV.int b) n.toNat (Dg.rks (Dg.gr n l) (Dg.orderL n l))).symm
      refine awp_weak (Weak.freeze (t := 8) (sz := 1) (xs := (bl n.toNat (Dg.rks (Dg.gr n l) (Dg.orderL n l))).map encI) (by simp [encI]) (by rw [List.length_map, bl_len]; rfl) .here) ?_
      refine awp_region ?_
      refine st_p (fun _ => by exact y_move (.plain rfl)) rfl ?_
      refine st_p (fun _ => by exact y_assign (.plain rfl)) rfl ?_
      refine st_p (fun _ => by exact y_assign (.plain rfl)) rfl ?_
      refine aops_nil ?_
      refine awp_ret ?_
      refine retG (.inr rfl) (.cons (.tmp rfl) (.cons (.tmp rfl) .nil)) (VShift.of2 (AV.Imp.tup (.cons (Sl.imp (enc := encI)) (.cons (AV.Imp.refl _) .nil))) (.nil _)) ⟨congrArg (fun x : (List (Int)) × (Int) => (AV.tup [(AV.sl 1 (List.map encI x.1)), (AV.int x.2)])) (show (_, _) = ((Dg.rankL n l, Dg.rankE n l)) from ?_), rfl⟩
      rw [Dg.rankL, Dg.rankE, if_neg (by omega), he0]
      all_goals rfl

theorem closureR_c (n : Int) (l : List Dg.Ed) (hl : l.length ≤ 1000000) : ACalls Try.prog 33 [(AV.int n), (AV.sl 2 (List.map encE l))] [] (fun v st => v = (AV.tup [(AV.sl 2 (List.map encE (((Dg.cloL n l, Dg.cloE n l)).1))), (AV.int (((Dg.cloL n l, Dg.cloE n l)).2))]) ∧ st = []) := by
  refine acalls_body Try.func33 (by kernel_rfl) rfl Try.ntmps33 (le_ rfl) ?_
  rw [Try.results33]
  refine awp_seq ?_
  refine awp_region ?_
  refine st_p (fun _ => by exact y_assign (.plain rfl)) rfl ?_
  refine st_p (fun _ => by exact y_assign (.plain rfl)) rfl ?_
  refine aops_nil ?_
  refine awp_seq ?_
  refine awp_region ?_
  refine st_p (fun _ => by exact y_buildSlice .nil rfl (le_ rfl)) rfl ?_
  refine st_p (fun _ => by exact y_assign (.plain rfl)) rfl ?_
  refine aops_nil ?_
  refine awp_seq ?_
  refine awp_seq ?_
  refine awp_region ?_
  refine st_p (fun _ => by exact y_move (.plain rfl)) rfl ?_
  refine st_p (fun _ => by exact y_move (.plain rfl)) rfl ?_
  refine aops_call (blt_lt rfl) (.plain rfl) (.cons (.plain rfl) (.cons (.imp (.plain rfl) (Sl.imp (enc := encE))) .nil)) (ACalls.here (chkR_c _ _ (by first | assumption | omega | (simp; omega) | (simp; done) | decide +kernel | (simp_all; omega))) ?_)
  refine st_p (fun _ => by exact y_neq (.plain rfl) (.plain rfl)) rfl ?_
  refine aops_nil ?_
  refine awp_cond rfl (fun h1 => ?_) (fun h1 => ?_)
  · skip
    try simp only [decide_eq_true_eq, decide_eq_false_iff_not, Bool.not_eq_true', Bool.not_eq_false', Bool.not_eq_true, Bool.not_eq_false, List.length_map, Int.ofNat_lt, Int.ofNat_le, Bool.or_eq_true, Bool.and_eq_true, Bool.or_eq_false_iff, Bool.and_eq_false_iff] at h1
    refine awp_seq ?_
    refine awp_region ?_
    refine st_p (fun _ => by exact y_move (.plain rfl)) rfl ?_
    refine st_p (fun _ => by exact y_assign (.plain rfl)) rfl ?_
    refine st_p (fun _ => by exact y_assign (.plain rfl)) rfl ?_
    refine aops_nil ?_
    refine awp_ret ?_
    refine retG (.inr rfl) (.cons (.tmp rfl) (.cons (.tmp rfl) .nil)) (VShift.of2 (AV.Imp.tup (.cons (Sl.imp (enc := encE)) (.cons (AV.Imp.refl _) .nil))) (.nil _)) ⟨congrArg (fun x : (List (Dg.Ed)) × (Int) => (AV.tup [(AV.sl 2 (List.map encE x.1)), (AV.int x.2)])) (show (_, _) = ((Dg.cloL n l, Dg.cloE n l)) from ?_), rfl⟩
    rw [Dg.cloL, Dg.cloE, if_pos (by omega), if_pos (by omega)]
  · skip
    try simp only [decide_eq_true_eq, decide_eq_false_iff_not, Bool.not_eq_true', Bool.not_eq_false', Bool.not_eq_true, Bool.not_eq_false, List.length_map, Int.ofNat_lt, Int.ofNat_le, Bool.or_eq_true, Bool.and_eq_true, Bool.or_eq_false_iff, Bool.and_eq_false_iff] at h1
    have hck : Dg.chk n l = 0 := by omega
    have hok := Dg.okE hck
    have hnb := hok.nb
    have hlen := hok.len
    refine awp_skip ?_
    refine awp_seq ?_
    refine awp_seq ?_
    refine awp_region ?_
    refine st_p (fun _ => by exact y_assign (.plain rfl)) rfl ?_
    refine aops_nil ?_
    refine awp_block ?_
    refine awp_loop2 (X := Nat × Option Nat) [0, 1] (.cons rfl (.cons rfl .nil)) (fun σ x => ((6, .grow 2 x.2 ((Dg.clo (Dg.gr n l) x.1).map encE)) : Nat × AV) :: ((7, .int (x.1 : Int)) : Nat × AV) :: σ) (fun R x => .tail x.2 :: R) (fun x => x.1 ≤ n.toNat ∧ True) (fun x => n.toNat - x.1) (0, none) (by exact Weak.of2 (by (repeat (first | exact .nil _ | refine .cons rfl (by first | exact AV.Imp.refl _ | exact Sl.imp | exact AV.Imp.agg RowOf.imp | exact AV.Imp.grow_sl | exact AV.Imp.nil_grow | exact AV.Imp.full_grow | exact AV.Imp.own_grow | exact AV.Imp.grow_of rfl | exact AV.Imp.sl_of rfl | exact AV.Imp.int_of (by omega) | exact AV.Imp.of_eq (by first | omega | simpa)) ?_)); done) (by (repeat (first | exact .refl _ | exact .nil _ | apply ItLe2.cons (by first | exact .here | exact k1 | exact k2 | exact k3 | exact k4 | exact k5 | exact k6 | exact k7 | exact k8 | exact k9 | exact k10 | exact k11 | exact k12 | exact k13) | apply ItLe2.cells (by first | exact .here | exact k1 | exact k2 | exact k3 | exact k4 | exact k5 | exact k6 | exact k7 | exact k8 | exact k9 | exact k10 | exact k11 | exact k12 | exact k13) (by repeat (first | exact .nil | refine .cons (by first | exact AV.Imp.refl _ | exact Sl.imp | exact AV.Imp.agg RowOf.imp | exact AV.Imp.grow_sl | exact AV.Imp.nil_grow | exact AV.Imp.full_grow | exact AV.Imp.own_grow | exact AV.Imp.grow_of rfl | exact AV.Imp.sl_of rfl | exact AV.Imp.int_of (by omega) | exact AV.Imp.of_eq (by first | omega | simpa)) ?_)) | apply ItLe2.tail0)); done)) ⟨Nat.zero_le _, trivial⟩ ?_
    rintro ⟨i, tok⟩ ⟨hi, -⟩
    simp only at hi
    dsimp only
    refine awp_seq ?_
    refine awp_seq ?_
    refine awp_region ?_
    refine st_p (fun _ => by exact y_move (.plain rfl)) rfl ?_
    refine st_p (fun _ => by exact y_move (.plain rfl)) rfl ?_
    refine st_p (fun _ => by exact y_lss (.plain rfl) (.plain rfl)) rfl ?_
    refine aops_nil ?_
    refine awp_cond rfl (fun h2 => ?_) (fun h2 => ?_)
    · skip
      try simp only [decide_eq_true_eq, decide_eq_false_iff_not, Bool.not_eq_true', Bool.not_eq_false', Bool.not_eq_true, Bool.not_eq_false, List.length_map, Int.ofNat_lt, Int.ofNat_le, Bool.or_eq_true, Bool.and_eq_true, Bool.or_eq_false_iff, Bool.and_eq_false_iff] at h2
      have hcb := Dg.clo_len (Dg.gr n l) i
      have hcb2 : i * (Dg.gr n l).n.toNat ≤ 200 * 200 := Nat.mul_le_mul (by omega) (by show n.toNat ≤ 200; omega)
      refine awp_skip ?_
      refine awp_seq ?_
      refine awp_block ?_
      refine awp_seq ?_
      refine awp_region ?_
      refine st_p (fun _ => by exact y_move (.plain rfl)) rfl ?_
      refine st_n (fun _ => by exact y_makeArr (by rfl) (.plain rfl) (.plain rfl) (Int.toNat_of_nonneg (a := n) (by omega)).symm (by omega)) rfl fun nj => ?_
      refine st_p (fun _ => by exact y_assign (.plain rfl)) rfl ?_
      refine aops_nil ?_
      refine awp_seq ?_
      refine awp_seq ?_
      refine awp_region ?_
      refine st_p (fun _ => by exact y_assign (.plain rfl)) rfl ?_
      refine aops_nil ?_
      refine awp_block ?_
      refine awp_loop2 (X := Nat) (rest := []) [0, 1, 6, 7, 8] (.cons rfl (.cons rfl (.cons rfl (.cons rfl (.cons rfl .nil))))) (fun σ x => ((9, .int (x : Int)) : Nat × AV) :: σ) (fun R x => .cells nj (ea n.toNat (fun w => .bool ((Dg.thS n l (i : Int) x) w))) :: .tail tok :: []) (fun x => x ≤ l.length) (fun x => l.length - x) 0 (by exact Weak.of2 (by (repeat (first | exact .nil _ | refine .cons rfl (by first | exact AV.Imp.refl _ | exact Sl.imp | exact AV.Imp.agg RowOf.imp | exact AV.Imp.grow_sl | exact AV.Imp.nil_grow | exact AV.Imp.full_grow | exact AV.Imp.own_grow | exact AV.Imp.grow_of rfl | exact AV.Imp.sl_of rfl | exact AV.Imp.int_of (by omega) | exact AV.Imp.of_eq (by first | omega | simpa)) ?_)); done) (.cells .here (by rw [ea_make]; exact ImpL.refl _) (.cons .here (.nil _)))) (Nat.zero_le _) ?_
      rintro k hk
      refine awp_seq ?_
      refine awp_seq ?_
      refine awp_region ?_
      refine st_p (fun _ => by exact y_move (.plain rfl)) rfl ?_
      refine st_p (fun _ => by exact y_move (.plain rfl)) rfl ?_
      first | refine st_p (fun _ => by exact y_lenN (.plain rfl)) rfl ?_ | refine st_p (fun _ => by exact y_len (.plain rfl)) rfl ?_ | refine st_p (fun _ => by exact y_lenArr (.plain rfl)) rfl ?_
      refine st_p (fun _ => by exact y_lss (.plain rfl) (.plain rfl)) rfl ?_
      refine aops_nil ?_
      refine awp_cond rfl (fun h3 => ?_) (fun h3 => ?_)
      · skip
        try simp only [decide_eq_true_eq, decide_eq_false_iff_not, Bool.not_eq_true', Bool.not_eq_false', Bool.not_eq_true, Bool.not_eq_false, List.length_map, Int.ofNat_lt, Int.ofNat_le, Bool.or_eq_true, Bool.and_eq_true, Bool.or_eq_false_iff, Bool.and_eq_false_iff] at h3
        refine awp_skip ?_
        refine awp_seq ?_
        refine awp_block ?_
        refine awp_seq ?_
        have hvb := hok.v _ (List.getElem_mem (by assumption : k < l.length))
        refine awp_region ?_
        refine st_p (fun _ => by exact y_move (.plain rfl)) rfl ?_
        refine st_p (fun _ => by exact y_move (.plain rfl)) rfl ?_
        first | refine st_p (fun _ => by exact y_indexMap (.plain rfl) (.plain rfl) rfl (by refine ⟨?_, ?_⟩; (first | omega | (simp; omega) | (simp at hc; omega) | (simp at hc ⊢; omega) | (simp; done)); rfl)) rfl ?_ | refine st_p (fun _ => by exact y_indexT (.plain rfl) (.plain rfl) (by first | omega | (simp; omega) | (simp at hc; omega) | (simp at hc ⊢; omega) | (simp; done)) (by first | omega | (simp; omega) | (simp at hc; omega) | (simp at hc ⊢; omega) | (simp; done))) rfl ?_ | refine st_p (fun _ => by exact y_index (.plain rfl) (.plain rfl) (by omega) rfl) rfl ?_ | refine st_p (fun _ => by exact y_indexArr (.plain rfl) (.plain rfl) rfl (by first | omega | (simp; omega) | (simp at hc; omega) | (simp at hc ⊢; omega) | (simp; done))) rfl ?_
        refine st_p (fun _ => by exact y_fieldE (.plain rfl) (le_ rfl)) rfl ?_
        refine st_p (fun _ => by exact y_loadE (.plain rfl) rfl) rfl ?_
        refine st_p (fun _ => by exact y_move (.plain rfl)) rfl ?_
        refine st_p (fun _ => by exact y_eql (.plain rfl) (.plain rfl)) rfl ?_
        refine st_p (fun _ => by exact y_move (.plain rfl)) rfl ?_
        refine st_g rfl rfl rfl SaysI.out (fun hc _ => by exact y_move (.plain rfl)) rfl ?_
        refine st_g rfl rfl rfl SaysI.out (fun hc _ => by exact y_move (.plain rfl)) rfl ?_
        refine st_g rfl rfl rfl SaysI.out (fun hc _ => by exact y_move (.plain rfl)) rfl ?_
        first | refine st_g rfl rfl rfl SaysI.out (fun hc _ => by exact y_indexMap (.opt rfl hc) (.opt rfl hc) rfl (by refine ⟨?_, ?_⟩; (first | omega | (simp; omega) | (simp at hc; omega) | (simp at hc ⊢; omega) | (simp; done)); rfl)) rfl ?_ | refine st_g rfl rfl rfl SaysI.out (fun hc _ => by exact y_indexT (.opt rfl hc) (.opt rfl hc) (by first | omega | (simp; omega) | (simp at hc; omega) | (simp at hc ⊢; omega) | (simp; done)) (by first | omega | (simp; omega) | (simp at hc; omega) | (simp at hc ⊢; omega) | (simp; done))) rfl ?_ | refine st_g rfl rfl rfl SaysI.out (fun hc _ => by exact y_index (.opt rfl hc) (.opt rfl hc) (by omega) rfl) rfl ?_ | refine st_g rfl rfl rfl SaysI.out (fun hc _ => by exact y_indexArr (.opt rfl hc) (.opt rfl hc) rfl (by first | omega | (simp; omega) | (simp at hc; omega) | (simp at hc ⊢; omega) | (simp; done))) rfl ?_
        refine st_g rfl rfl rfl SaysI.out (fun hc _ => by exact y_fieldE (.opt rfl hc) (le_ rfl)) rfl ?_
        refine st_g rfl rfl rfl SaysI.out (fun hc _ => by exact y_loadE (.opt rfl hc) rfl) rfl ?_
        refine st_g rfl rfl rfl SaysI.out (fun hc _ => by exact y_indexArr (.opt rfl hc) (.opt rfl hc) (Int.toNat_of_nonneg hvb.1).symm (by omega)) rfl ?_
        refine st_g rfl rfl rfl SaysI.out (fun hc _ => by exact y_load (.opt rfl hc) (by first | exact .here | exact k1 | exact k2 | exact k3 | exact k4 | exact k5 | exact k6 | exact k7 | exact k8 | exact k9 | exact k10 | exact k11 | exact k12 | exact k13) (ea_get _ ⟨hvb.1, by omega⟩)) rfl ?_
        refine st_g rfl rfl rfl SaysI.out (fun hc _ => by exact y_not (.opt rfl hc)) rfl ?_
        refine st_p (fun _ => by exact y_and (.plain rfl) rfl rfl) rfl ?_
        refine aops_nil ?_
        refine awp_cond rfl (fun h4 => ?_) (fun h4 => ?_)
        · skip
          try simp only [decide_eq_true_eq, decide_eq_false_iff_not, Bool.not_eq_true', Bool.not_eq_false', Bool.not_eq_true, Bool.not_eq_false, List.length_map, Int.ofNat_lt, Int.ofNat_le, Bool.or_eq_true, Bool.and_eq_true, Bool.or_eq_false_iff, Bool.and_eq_false_iff] at h4
          have hui := h4.1
          have hub := hok.v _ (List.getElem_mem (by assumption : k < l.length))
          refine awp_seq ?_
          refine awp_region ?_
          refine st_p (fun _ => by exact y_move (.plain rfl)) rfl ?_
          refine st_p (fun _ => by exact y_move (.plain rfl)) rfl ?_
          refine st_p (fun _ => by exact y_move (.plain rfl)) rfl ?_
          refine st_p (fun _ => by exact y_move (.plain rfl)) rfl ?_
          first | refine st_p (fun _ => by exact y_indexMap (.plain rfl) (.plain rfl) rfl (by refine ⟨?_, ?_⟩; (first | omega | (simp; omega) | (simp at hc; omega) | (simp at hc ⊢; omega) | (simp; done)); rfl)) rfl ?_ | refine st_p (fun _ => by exact y_indexT (.plain rfl) (.plain rfl) (by first | omega | (simp; omega) | (simp at hc; omega) | (simp at hc ⊢; omega) | (simp; done)) (by first | omega | (simp; omega) | (simp at hc; omega) | (simp at hc ⊢; omega) | (simp; done))) rfl ?_ | refine st_p (fun _ => by exact y_index (.plain rfl) (.plain rfl) (by omega) rfl) rfl ?_ | refine st_p (fun _ => by exact y_indexArr (.plain rfl) (.plain rfl) rfl (by first | omega | (simp; omega) | (simp at hc; omega) | (simp at hc ⊢; omega) | (simp; done))) rfl ?_
          refine st_p (fun _ => by exact y_fieldE (.plain rfl) (le_ rfl)) rfl ?_
          refine st_p (fun _ => by exact y_loadE (.plain rfl) rfl) rfl ?_
          refine aops_call (blt_lt rfl) (.plain rfl) (.cons (.plain rfl) (.cons (.imp (.plain rfl) (Sl.imp (enc := encE))) (.cons (.plain rfl) .nil))) (ACalls.here (reached_c n l l[k].v hck hub) ?_)
          refine st_p (fun _ => by exact y_assign (.plain rfl)) rfl ?_
          refine aops_nil ?_
          refine awp_seq ?_
          refine awp_region ?_
          refine st_p (fun _ => by exact y_assign (.plain rfl)) rfl ?_
          refine aops_nil ?_
          refine awp_block ?_
          refine awp_loop2 (X := Nat) (rest := []) [0, 1, 6, 7, 8, 9, 10] (.cons rfl (.cons rfl (.cons rfl (.cons rfl (.cons rfl (.cons rfl (.cons rfl .nil))))))) (fun σ x => ((11, .int (x : Int)) : Nat × AV) :: σ) (fun R x => .cells nj (ea n.toNat (fun w => .bool (if w < ((x : Nat) : Int) then ((Dg.thS n l (i : Int) k) w || (Dg.rS n l l[k].v) w) else (Dg.thS n l (i : Int) k) w))) :: .tail tok :: []) (fun x => x ≤ n.toNat) (fun x => n.toNat - x) 0 (by exact Weak.of2 (by (repeat (first | exact .nil _ | refine .cons rfl (by first | exact AV.Imp.refl _ | exact Sl.imp | exact AV.Imp.agg RowOf.imp | exact AV.Imp.grow_sl | exact AV.Imp.nil_grow | exact AV.Imp.full_grow | exact AV.Imp.own_grow | exact AV.Imp.grow_of rfl | exact AV.Imp.sl_of rfl | exact AV.Imp.int_of (by omega) | exact AV.Imp.of_eq (by first | omega | simpa)) ?_)); done) (.cells .here (ImpL.of_eq (ea_congr fun w hw => by rw [if_neg (by omega)])) (.cons .here (.nil _)))) (Nat.zero_le _) ?_
          rintro j hj
          refine awp_seq ?_
          refine awp_seq ?_
          refine awp_region ?_
          refine st_p (fun _ => by exact y_move (.plain rfl)) rfl ?_
          refine st_p (fun _ => by exact y_move (.plain rfl)) rfl ?_
          refine st_p (fun _ => by exact y_lss (.plain rfl) (.plain rfl)) rfl ?_
          refine aops_nil ?_
          refine awp_cond rfl (fun h5 => ?_) (fun h5 => ?_)
          · skip
            try simp only [decide_eq_true_eq, decide_eq_false_iff_not, Bool.not_eq_true', Bool.not_eq_false', Bool.not_eq_true, Bool.not_eq_false, List.length_map, Int.ofNat_lt, Int.ofNat_le, Bool.or_eq_true, Bool.and_eq_true, Bool.or_eq_false_iff, Bool.and_eq_false_iff] at h5
            refine awp_skip ?_
            refine awp_seq ?_
            refine awp_block ?_
            have hbg := bl_get n.toNat (Dg.rS n l l[k].v) j (by rw [bl_len]; omega)
            have hbl := bl_len n.toNat (Dg.rS n l l[k].v)
            refine awp_region ?_
            refine st_p (fun _ => by exact y_move (.plain rfl)) rfl ?_
            refine st_p (fun _ => by exact y_move (.plain rfl)) rfl ?_
            refine st_p (fun _ => by exact y_move (.plain rfl)) rfl ?_
            refine st_p (fun _ => by exact y_move (.plain rfl)) rfl ?_
            refine st_p (fun _ => by exact y_indexArr (.plain rfl) (.plain rfl) rfl (by first | omega | (simp; omega) | (simp at hc; omega) | (simp at hc ⊢; omega) | (simp; done))) rfl ?_
            refine st_p (fun _ => by exact y_load (.plain rfl) (by first | exact .here | exact k1 | exact k2 | exact k3 | exact k4 | exact k5 | exact k6 | exact k7 | exact k8 | exact k9 | exact k10 | exact k11 | exact k12 | exact k13) (ea_getN (m := n.toNat) (t := j) _ (by omega))) rfl ?_
            refine st_p (fun _ => by exact y_move (.plain rfl)) rfl ?_
            refine st_g rfl rfl rfl SaysI.out (fun hc _ => by exact y_move (.plain rfl)) rfl ?_
            refine st_g rfl rfl rfl SaysI.out (fun hc _ => by exact y_move (.plain rfl)) rfl ?_
            first | refine st_g rfl rfl rfl SaysI.out (fun hc _ => by exact y_indexMap (.opt rfl hc) (.opt rfl hc) rfl (by refine ⟨?_, ?_⟩; (first | omega | (simp; omega) | (simp at hc; omega) | (simp at hc ⊢; omega) | (simp; done)); rfl)) rfl ?_ | refine st_g rfl rfl rfl SaysI.out (fun hc _ => by exact y_indexT (.opt rfl hc) (.opt rfl hc) (by first | omega | (simp; omega) | (simp at hc; omega) | (simp at hc ⊢; omega) | (simp; done)) (by first | omega | (simp; omega) | (simp at hc; omega) | (simp at hc ⊢; omega) | (simp; done))) rfl ?_ | refine st_g rfl rfl rfl SaysI.out (fun hc _ => by exact y_index (.opt rfl hc) (.opt rfl hc) (by omega) rfl) rfl ?_ | refine st_g rfl rfl rfl SaysI.out (fun hc _ => by exact y_indexArr (.opt rfl hc) (.opt rfl hc) rfl (by first | omega | (simp; omega) | (simp at hc; omega) | (simp at hc ⊢; omega) | (simp; done))) rfl ?_
            refine st_g rfl rfl rfl SaysI.out (fun hc _ => by exact y_loadE (.opt rfl hc) rfl) rfl ?_
            refine st_p (fun _ => by exact y_or (.plain rfl) rfl rfl) rfl ?_
            refine st_p (fun _ => by exact y_indexArr (.plain rfl) (.plain rfl) rfl (by first | omega | (simp; omega) | (simp at hc; omega) | (simp at hc ⊢; omega) | (simp; done))) rfl ?_
            refine st_s (fun _ => by exact y_store (by rfl) rfl (.plain rfl) (.plain rfl) (by first | exact .here | exact u1 | exact u2 | exact u3 | exact u4 | exact u5 | exact u6 | exact u7 | exact u8 | exact u9 | exact u10 | exact u11 | exact u12 | exact u13) (by rw [ea_len]; simp; omega)) ?_
            refine aops_nil ?_
            refine awp_region ?_
            refine st_p (fun _ => by exact y_move (.plain rfl)) rfl ?_
            refine st_p (fun _ => by exact y_add (.plain rfl) (.plain rfl) (by first | omega | (simp; omega) | (simp at hc; omega) | (simp at hc ⊢; omega) | (simp; done))) rfl ?_
            refine st_p (fun _ => by exact y_assign (.plain rfl)) rfl ?_
            refine aops_nil ?_
            refine ⟨j + 1, by omega, by omega, ?_⟩
            rw [ea_setN _ _ (by omega)]
            refine Weak.of2 (by (repeat (first | exact .nil _ | refine .cons rfl (by first | exact AV.Imp.refl _ | exact Sl.imp | exact AV.Imp.agg RowOf.imp | exact AV.Imp.grow_sl | exact AV.Imp.nil_grow | exact AV.Imp.full_grow | exact AV.Imp.own_grow | exact AV.Imp.grow_of rfl | exact AV.Imp.sl_of rfl | exact AV.Imp.int_of (by omega) | exact AV.Imp.of_eq (by first | omega | simpa)) ?_)); done) (.cells .here (ImpL.of_eq (ea_congr fun w hw => ?_)) (.cons .here (.nil _)))
            by_cases e : w = (j : Int)
            · subst e; rw [if_pos rfl, if_neg (show ¬ (j : Int) < ((j : Nat) : Int) by omega), if_pos (show (j : Int) < ((j + 1 : Nat) : Int) by omega), ← hbg]
            · rw [if_neg e]; by_cases e2 : w < (j : Int)
              · rw [if_pos e2, if_pos (by omega)]
              · rw [if_neg e2, if_neg (by omega)]
          · skip
            try simp only [decide_eq_true_eq, decide_eq_false_iff_not, Bool.not_eq_true', Bool.not_eq_false', Bool.not_eq_true, Bool.not_eq_false, List.length_map, Int.ofNat_lt, Int.ofNat_le, Bool.or_eq_true, Bool.and_eq_true, Bool.or_eq_false_iff, Bool.and_eq_false_iff] at h5
            obtain rfl : j = n.toNat := by omega
            rw [show (ea n.toNat (fun w => .bool (if w < ((n.toNat : Nat) : Int) then ((Dg.thS n l (i : Int) k) w || (Dg.rS n l l[k].v) w) else (Dg.thS n l (i : Int) k) w))) = ea n.toNat (fun w => .bool ((Dg.thS n l (i : Int) (k + 1)) w)) from ea_congr fun w hw => by rw [if_pos (by omega), Dg.thS_or (by assumption) hui]]
            refine awp_exit ?_
            refine awp_region ?_
            refine st_p (fun _ => by exact y_move (.plain rfl)) rfl ?_
            refine st_p (fun _ => by exact y_add (.plain rfl) (.plain rfl) (by first | omega | (simp; omega) | (simp at hc; omega) | (simp at hc ⊢; omega) | (simp; done))) rfl ?_
            refine st_p (fun _ => by exact y_assign (.plain rfl)) rfl ?_
            refine aops_nil ?_
            refine ⟨k + 1, by omega, by omega, ?_⟩
            exact Weak.of2 (by (repeat (first | exact .nil _ | refine .cons rfl (by first | exact AV.Imp.refl _ | exact Sl.imp | exact AV.Imp.agg RowOf.imp | exact AV.Imp.grow_sl | exact AV.Imp.nil_grow | exact AV.Imp.full_grow | exact AV.Imp.own_grow | exact AV.Imp.grow_of rfl | exact AV.Imp.sl_of rfl | exact AV.Imp.int_of (by omega) | exact AV.Imp.of_eq (by first | omega | simpa)) ?_)); done) (by (repeat (first | exact .refl _ | exact .nil _ | apply ItLe2.cons (by first | exact .here | exact k1 | exact k2 | exact k3 | exact k4 | exact k5 | exact k6 | exact k7 | exact k8 | exact k9 | exact k10 | exact k11 | exact k12 | exact k13) | apply ItLe2.cells (by first | exact .here | exact k1 | exact k2 | exact k3 | exact k4 | exact k5 | exact k6 | exact k7 | exact k8 | exact k9 | exact k10 | exact k11 | exact k12 | exact k13) (by repeat (first | exact .nil | refine .cons (by first | exact AV.Imp.refl _ | exact Sl.imp | exact AV.Imp.agg RowOf.imp | exact AV.Imp.grow_sl | exact AV.Imp.nil_grow | exact AV.Imp.full_grow | exact AV.Imp.own_grow | exact AV.Imp.grow_of rfl | exact AV.Imp.sl_of rfl | exact AV.Imp.int_of (by omega) | exact AV.Imp.of_eq (by first | omega | simpa)) ?_)) | apply ItLe2.tail0)); done)
        · skip
          try simp only [decide_eq_true_eq, decide_eq_false_iff_not, Bool.not_eq_true', Bool.not_eq_false', Bool.not_eq_true, Bool.not_eq_false, List.length_map, Int.ofNat_lt, Int.ofNat_le, Bool.or_eq_true, Bool.and_eq_true, Bool.or_eq_false_iff, Bool.and_eq_false_iff] at h4
          have hsame : ∀ w, (Dg.thS n l (i : Int) k) w = (Dg.thS n l (i : Int) (k + 1)) w := fun w => by
            by_cases e : l[k].u = (i : Int)
            · exact Dg.thS_in hck (by assumption) e (by rcases h4 with h | h; exact absurd e h; simpa using h) w
            · exact Dg.thS_no (by assumption) e w
          refine awp_skip ?_
          refine awp_region ?_
          refine st_p (fun _ => by exact y_move (.plain rfl)) rfl ?_
          refine st_p (fun _ => by exact y_add (.plain rfl) (.plain rfl) (by first | omega | (simp; omega) | (simp at hc; omega) | (simp at hc ⊢; omega) | (simp; done))) rfl ?_
          refine st_p (fun _ => by exact y_assign (.plain rfl)) rfl ?_
          refine aops_nil ?_
          refine ⟨k + 1, by omega, by omega, ?_⟩
          rw [show (ea n.toNat (fun w => .bool ((Dg.thS n l (i : Int) k) w))) = ea n.toNat (fun w => .bool ((Dg.thS n l (i : Int) (k + 1)) w)) from ea_congr fun w _ => by rw [hsame w]]
          exact Weak.of2 (by (repeat (first | exact .nil _ | refine .cons rfl (by first | exact AV.Imp.refl _ | exact Sl.imp | exact AV.Imp.agg RowOf.imp | exact AV.Imp.grow_sl | exact AV.Imp.nil_grow | exact AV.Imp.full_grow | exact AV.Imp.own_grow | exact AV.Imp.grow_of rfl | exact AV.Imp.sl_of rfl | exact AV.Imp.int_of (by omega) | exact AV.Imp.of_eq (by first | omega | simpa)) ?_)); done) (by (repeat (first | exact .refl _ | exact .nil _ | apply ItLe2.cons (by first | exact .here | exact k1 | exact k2 | exact k3 | exact k4 | exact k5 | exact k6 | exact k7 | exact k8 | exact k9 | exact k10 | exact k11 | exact k12 | exact k13) | apply ItLe2.cells (by first | exact .here | exact k1 | exact k2 | exact k3 | exact k4 | exact k5 | exact k6 | exact k7 | exact k8 | exact k9 | exact k10 | exact k11 | exact k12 | exact k13) (by repeat (first | exact .nil | refine .cons (by first | exact AV.Imp.refl _ | exact Sl.imp | exact AV.Imp.agg RowOf.imp | exact AV.Imp.grow_sl | exact AV.Imp.nil_grow | exact AV.Imp.full_grow | exact AV.Imp.own_grow | exact AV.Imp.grow_of rfl | exact AV.Imp.sl_of rfl | exact AV.Imp.int_of (by omega) | exact AV.Imp.of_eq (by first | omega | simpa)) ?_)) | apply ItLe2.tail0)); done)
      · skip
        try simp only [decide_eq_true_eq, decide_eq_false_iff_not, Bool.not_eq_true', Bool.not_eq_false', Bool.not_eq_true, Bool.not_eq_false, List.length_map, Int.ofNat_lt, Int.ofNat_le, Bool.or_eq_true, Bool.and_eq_true, Bool.or_eq_false_iff, Bool.and_eq_false_iff] at h3
        obtain rfl : k = l.length := by omega
        rw [show (ea n.toNat (fun w => .bool ((Dg.thS n l (i : Int) l.length) w))) = ea n.toNat (fun w => .bool ((Dg.cS n l (i : Int)) w)) from ea_congr fun w _ => by rw [Dg.thS_all hck]]
        refine awp_exit ?_
        refine awp_seq ?_
        refine awp_region ?_
        refine st_p (fun _ => by exact y_assign (.plain rfl)) rfl ?_
        refine aops_nil ?_
        refine awp_block ?_
        refine awp_loop2 (X := Nat × Option Nat) (rest := []) [0, 1, 7, 8] (.cons rfl (.cons rfl (.cons rfl (.cons rfl .nil)))) (fun σ x => ((6, .grow 2 x.2 (((Dg.clo (Dg.gr n l) i) ++ Dg.mkE (i : Int) (Dg.cS n l (i : Int)) x.1).map encE)) : Nat × AV) :: ((12, .int (x.1 : Int)) : Nat × AV) :: σ) (fun R x => .cells nj (ea n.toNat (fun w => .bool ((Dg.cS n l (i : Int)) w))) :: .tail x.2 :: []) (fun x => x.1 ≤ n.toNat) (fun x => n.toNat - x.1) (0, tok) (by exact Weak.of2 (by (repeat (first | exact .nil _ | refine .cons rfl (by first | exact AV.Imp.refl _ | exact AV.Imp.grow_of (List.append_nil _).symm | exact Sl.imp | exact AV.Imp.agg RowOf.imp | exact AV.Imp.grow_sl | exact AV.Imp.nil_grow | exact AV.Imp.full_grow | exact AV.Imp.own_grow | exact AV.Imp.grow_of rfl | exact AV.Imp.sl_of rfl | exact AV.Imp.int_of (by omega) | exact AV.Imp.of_eq (by first | omega | simpa)) ?_)); done) (by (repeat (first | exact .refl _ | exact .nil _ | apply ItLe2.cons (by first | exact .here | exact k1 | exact k2 | exact k3 | exact k4 | exact k5 | exact k6 | exact k7 | exact k8 | exact k9 | exact k10 | exact k11 | exact k12 | exact k13) | apply ItLe2.cells (by first | exact .here | exact k1 | exact k2 | exact k3 | exact k4 | exact k5 | exact k6 | exact k7 | exact k8 | exact k9 | exact k10 | exact k11 | exact k12 | exact k13) (by repeat (first | exact .nil | refine .cons (by first | exact AV.Imp.refl _ | exact Sl.imp | exact AV.Imp.agg RowOf.imp | exact AV.Imp.grow_sl | exact AV.Imp.nil_grow | exact AV.Imp.full_grow | exact AV.Imp.own_grow | exact AV.Imp.grow_of rfl | exact AV.Imp.sl_of rfl | exact AV.Imp.int_of (by omega) | exact AV.Imp.of_eq (by first | omega | simpa)) ?_)) | apply ItLe2.tail0)); done)) (Nat.zero_le _) ?_
        rintro ⟨j, tk⟩ hj
        simp only at hj
        dsimp only
        refine awp_seq ?_
        refine awp_seq ?_
        refine awp_region ?_
        refine st_p (fun _ => by exact y_move (.plain rfl)) rfl ?_
        refine st_p (fun _ => by exact y_move (.plain rfl)) rfl ?_
        refine st_p (fun _ => by exact y_lss (.plain rfl) (.plain rfl)) rfl ?_
        refine aops_nil ?_
        refine awp_cond rfl (fun h6 => ?_) (fun h6 => ?_)
        · skip
          try simp only [decide_eq_true_eq, decide_eq_false_iff_not, Bool.not_eq_true', Bool.not_eq_false', Bool.not_eq_true, Bool.not_eq_false, List.length_map, Int.ofNat_lt, Int.ofNat_le, Bool.or_eq_true, Bool.and_eq_true, Bool.or_eq_false_iff, Bool.and_eq_false_iff] at h6
          refine awp_skip ?_
          refine awp_seq ?_
          refine awp_block ?_
          refine awp_seq ?_
          refine awp_region ?_
          refine st_p (fun _ => by exact y_move (.plain rfl)) rfl ?_
          refine st_p (fun _ => by exact y_move (.plain rfl)) rfl ?_
          refine st_p (fun _ => by exact y_indexArr (.plain rfl) (.plain rfl) rfl (by first | omega | (simp; omega) | (simp at hc; omega) | (simp at hc ⊢; omega) | (simp; done))) rfl ?_
          refine st_p (fun _ => by exact y_load (.plain rfl) (by first | exact .here | exact k1 | exact k2 | exact k3 | exact k4 | exact k5 | exact k6 | exact k7 | exact k8 | exact k9 | exact k10 | exact k11 | exact k12 | exact k13) (ea_getN (m := n.toNat) (t := j) _ (by omega))) rfl ?_
          refine aops_nil ?_
          refine awp_cond rfl (fun h7 => ?_) (fun h7 => ?_)
          · skip
            try simp only [decide_eq_true_eq, decide_eq_false_iff_not, Bool.not_eq_true', Bool.not_eq_false', Bool.not_eq_true, Bool.not_eq_false, List.length_map, Int.ofNat_lt, Int.ofNat_le, Bool.or_eq_true, Bool.and_eq_true, Bool.or_eq_false_iff, Bool.and_eq_false_iff] at h7
            have hs : (Dg.cS n l (i : Int)) (j : Int) = true := h7
            have hml := Dg.mkE_len (i : Int) (Dg.cS n l (i : Int)) j
            refine awp_region ?_
            refine st_p (fun _ => by exact y_move (.plain rfl)) rfl ?_
            refine st_p (fun _ => by exact y_move (.plain rfl)) rfl ?_
            refine st_p (fun _ => by exact y_move (.plain rfl)) rfl ?_
            refine st_p (fun _ => by exact y_build (out := [_, _]) (.cons (.plain rfl) inferInstance rfl (.cons (.plain rfl) inferInstance rfl .nil)) rfl rfl) rfl ?_
            refine st_p (fun _ => by exact y_buildSlice (.cons (.plain rfl) inferInstance (by rfl) .nil) rfl (le_ rfl)) rfl ?_
            first | refine st_append (by rfl) (.plain rfl) (.plain rfl) (by first | (simp; try omega) | omega) rfl fun tA => ?_ | refine st_appendT (by rfl) (.plain rfl) (.plain rfl) (by first | exact .here | exact k1 | exact k2 | exact k3 | exact k4 | exact k5 | exact k6 | exact k7 | exact k8 | exact k9 | exact k10 | exact k11 | exact k12 | exact k13) (by first | (simp; try omega) | omega) rfl fun tA => ?_ | refine st_append0 (by rfl) (.plain rfl) (.plain rfl) (by first | (simp; try omega) | omega) rfl fun tA => ?_ | refine st_append0 (by rfl) (.imp (.plain rfl) AV.Imp.nil_grow) (.plain rfl) (by first | (simp; try omega) | omega) rfl fun tA => ?_ | refine st_append0 (by rfl) (.imp (.plain rfl) AV.Imp.full_grow) (.plain rfl) (by first | (simp; try omega) | omega) rfl fun tA => ?_ | refine st_appendT (by rfl) (.imp (.plain rfl) AV.Imp.own_grow) (.plain rfl) (by first | exact .here | exact k1 | exact k2 | exact k3 | exact k4 | exact k5 | exact k6 | exact k7 | exact k8 | exact k9 | exact k10 | exact k11 | exact k12 | exact k13) (by first | (simp; try omega) | omega) rfl fun tA => ?_
            refine st_p (fun _ => by exact y_assign (.plain rfl)) rfl ?_
            refine aops_nil ?_
            refine awp_region ?_
            refine st_p (fun _ => by exact y_move (.plain rfl)) rfl ?_
            refine st_p (fun _ => by exact y_add (.plain rfl) (.plain rfl) (by first | omega | (simp; omega) | (simp at hc; omega) | (simp at hc ⊢; omega) | (simp; done))) rfl ?_
            refine st_p (fun _ => by exact y_assign (.plain rfl)) rfl ?_
            refine aops_nil ?_
            refine ⟨(j + 1, tA), by show j + 1 ≤ _; omega, by show n.toNat - (j + 1) < n.toNat - j; omega, ?_⟩
            dsimp only
            exact Weak.of2 (by (repeat (first | exact .nil _ | refine .cons rfl (by first | exact AV.Imp.refl _ | exact AV.Imp.grow_of (Dg.mkE_succ_t hs _) | exact Sl.imp | exact AV.Imp.agg RowOf.imp | exact AV.Imp.grow_sl | exact AV.Imp.nil_grow | exact AV.Imp.full_grow | exact AV.Imp.own_grow | exact AV.Imp.grow_of rfl | exact AV.Imp.sl_of rfl | exact AV.Imp.int_of (by omega) | exact AV.Imp.of_eq (by first | omega | simpa)) ?_)); done) (by (repeat (first | exact .refl _ | exact .nil _ | apply ItLe2.cons (by first | exact .here | exact k1 | exact k2 | exact k3 | exact k4 | exact k5 | exact k6 | exact k7 | exact k8 | exact k9 | exact k10 | exact k11 | exact k12 | exact k13) | apply ItLe2.cells (by first | exact .here | exact k1 | exact k2 | exact k3 | exact k4 | exact k5 | exact k6 | exact k7 | exact k8 | exact k9 | exact k10 | exact k11 | exact k12 | exact k13) (by repeat (first | exact .nil | refine .cons (by first | exact AV.Imp.refl _ | exact Sl.imp | exact AV.Imp.agg RowOf.imp | exact AV.Imp.grow_sl | exact AV.Imp.nil_grow | exact AV.Imp.full_grow | exact AV.Imp.own_grow | exact AV.Imp.grow_of rfl | exact AV.Imp.sl_of rfl | exact AV.Imp.int_of (by omega) | exact AV.Imp.of_eq (by first | omega | simpa)) ?_)) | apply ItLe2.tail0)); done)
          · skip
            try simp only [decide_eq_true_eq, decide_eq_false_iff_not, Bool.not_eq_true', Bool.not_eq_false', Bool.not_eq_true, Bool.not_eq_false, List.length_map, Int.ofNat_lt, Int.ofNat_le, Bool.or_eq_true, Bool.and_eq_true, Bool.or_eq_false_iff, Bool.and_eq_false_iff] at h7
            have hs : (Dg.cS n l (i : Int)) (j : Int) = false := h7
            refine awp_skip ?_
            refine awp_region ?_
            refine st_p (fun _ => by exact y_move (.plain rfl)) rfl ?_
            refine st_p (fun _ => by exact y_add (.plain rfl) (.plain rfl) (by first | omega | (simp; omega) | (simp at hc; omega) | (simp at hc ⊢; omega) | (simp; done))) rfl ?_
            refine st_p (fun _ => by exact y_assign (.plain rfl)) rfl ?_
            refine aops_nil ?_
            refine ⟨(j + 1, tk), by show j + 1 ≤ _; omega, by show n.toNat - (j + 1) < n.toNat - j; omega, ?_⟩
            dsimp only
            exact Weak.of2 (by (repeat (first | exact .nil _ | refine .cons rfl (by first | exact AV.Imp.refl _ | exact AV.Imp.grow_of (Dg.mkE_succ_f hs _) | exact Sl.imp | exact AV.Imp.agg RowOf.imp | exact AV.Imp.grow_sl | exact AV.Imp.nil_grow | exact AV.Imp.full_grow | exact AV.Imp.own_grow | exact AV.Imp.grow_of rfl | exact AV.Imp.sl_of rfl | exact AV.Imp.int_of (by omega) | exact AV.Imp.of_eq (by first | omega | simpa)) ?_)); done) (by (repeat (first | exact .refl _ | exact .nil _ | apply ItLe2.cons (by first | exact .here | exact k1 | exact k2 | exact k3 | exact k4 | exact k5 | exact k6 | exact k7 | exact k8 | exact k9 | exact k10 | exact k11 | exact k12 | exact k13) | apply ItLe2.cells (by first | exact .here | exact k1 | exact k2 | exact k3 | exact k4 | exact k5 | exact k6 | exact k7 | exact k8 | exact k9 | exact k10 | exact k11 | exact k12 | exact k13) (by repeat (first | exact .nil | refine .cons (by first | exact AV.Imp.refl _ | exact Sl.imp | exact AV.Imp.agg RowOf.imp | exact AV.Imp.grow_sl | exact AV.Imp.nil_grow | exact AV.Imp.full_grow | exact AV.Imp.own_grow | exact AV.Imp.grow_of rfl | exact AV.Imp.sl_of rfl | exact AV.Imp.int_of (by omega) | exact AV.Imp.of_eq (by first | omega | simpa)) ?_)) | apply ItLe2.tail0)); done)
        · skip
          try simp only [decide_eq_true_eq, decide_eq_false_iff_not, Bool.not_eq_true', Bool.not_eq_false', Bool.not_eq_true, Bool.not_eq_false, List.length_map, Int.ofNat_lt, Int.ofNat_le, Bool.or_eq_true, Bool.and_eq_true, Bool.or_eq_false_iff, Bool.and_eq_false_iff] at h6
          obtain rfl : j = n.toNat := by omega
          have hcs : ((Dg.clo (Dg.gr n l) i) ++ Dg.mkE (i : Int) (Dg.cS n l (i : Int)) n.toNat) = (Dg.clo (Dg.gr n l) (i + 1)) := by rw [Dg.clo]; unfold Dg.cS; rw [Dg.suc_gr ⟨by omega, by omega⟩]; rfl
          rw [hcs]
          refine awp_exit ?_
          refine awp_region ?_
          refine st_p (fun _ => by exact y_move (.plain rfl)) rfl ?_
          refine st_p (fun _ => by exact y_add (.plain rfl) (.plain rfl) (by first | omega | (simp; omega) | (simp at hc; omega) | (simp at hc ⊢; omega) | (simp; done))) rfl ?_
          refine st_p (fun _ => by exact y_assign (.plain rfl)) rfl ?_
          refine aops_nil ?_
          refine ⟨(i + 1, tk), ⟨by show i + 1 ≤ _; omega, trivial⟩, by show n.toNat - (i + 1) < n.toNat - i; omega, ?_⟩
          dsimp only
          exact Weak.of2 (by (repeat (first | exact .nil _ | refine .cons rfl (by first | exact AV.Imp.refl _ | exact Sl.imp | exact AV.Imp.agg RowOf.imp | exact AV.Imp.grow_sl | exact AV.Imp.nil_grow | exact AV.Imp.full_grow | exact AV.Imp.own_grow | exact AV.Imp.grow_of rfl | exact AV.Imp.sl_of rfl | exact AV.Imp.int_of (by omega) | exact AV.Imp.of_eq (by first | omega | simpa)) ?_)); done) (by (repeat (first | exact .refl _ | exact .nil _ | apply ItLe2.cons (by first | exact .here | exact k1 | exact k2 | exact k3 | exact k4 | exact k5 | exact k6 | exact k7 | exact k8 | exact k9 | exact k10 | exact k11 | exact k12 | exact k13) | apply ItLe2.cells (by first | exact .here | exact k1 | exact k2 | exact k3 | exact k4 | exact k5 | exact k6 | exact k7 | exact k8 | exact k9 | exact k10 | exact k11 | exact k12 | exact k13) (by repeat (first | exact .nil | refine .cons (by first | exact AV.Imp.refl _ | exact Sl.imp | exact AV.Imp.agg RowOf.imp | exact AV.Imp.grow_sl | exact AV.Imp.nil_grow | exact AV.Imp.full_grow | exact AV.Imp.own_grow | exact AV.Imp.grow_of rfl | exact AV.Imp.sl_of rfl | exact AV.Imp.int_of (by omega) | exact AV.Imp.of_eq (by first | omega | simpa)) ?_)) | apply ItLe2.tail0)); done)
    · skip
      try simp only [decide_eq_true_eq, decide_eq_false_iff_not, Bool.not_eq_true', Bool.not_eq_false', Bool.not_eq_true, Bool.not_eq_false, List.length_map, Int.ofNat_lt, Int.ofNat_le, Bool.or_eq_true, Bool.and_eq_true, Bool.or_eq_false_iff, Bool.and_eq_false_iff] at h2
      obtain rfl : i = n.toNat := by omega
      refine awp_exit ?_
      refine awp_seq ?_
      refine awp_seq ?_
      refine awp_region ?_
      refine st_p (fun _ => by exact y_move (.plain rfl)) rfl ?_
      first | refine st_p (fun _ => by exact y_lenN (.plain rfl)) rfl ?_ | refine st_p (fun _ => by exact y_len (.plain rfl)) rfl ?_ | refine st_p (fun _ => by exact y_lenArr (.plain rfl)) rfl ?_
      refine st_p (fun _ => by exact y_gtr (.plain rfl) (.plain rfl)) rfl ?_
      refine aops_nil ?_
      refine awp_cond rfl (fun h8 => ?_) (fun h8 => ?_)
      · skip
        try simp only [decide_eq_true_eq, decide_eq_false_iff_not, Bool.not_eq_true', Bool.not_eq_false', Bool.not_eq_true, Bool.not_eq_false, List.length_map, Int.ofNat_lt, Int.ofNat_le, Bool.or_eq_true, Bool.and_eq_true, Bool.or_eq_false_iff, Bool.and_eq_false_iff] at h8
        refine awp_seq ?_
        refine awp_region ?_
        refine st_p (fun _ => by exact y_buildSlice .nil rfl (le_ rfl)) rfl ?_
        refine st_p (fun _ => by exact y_assign (.plain rfl)) rfl ?_
        refine st_p (fun _ => by exact y_assign (.plain rfl)) rfl ?_
        refine aops_nil ?_
        refine awp_ret ?_
        refine retG (.inr rfl) (.cons (.tmp rfl) (.cons (.tmp rfl) .nil)) (VShift.of2 (AV.Imp.tup (.cons (Sl.imp (enc := encE)) (.cons (AV.Imp.refl _) .nil))) (.nil _)) ⟨congrArg (fun x : (List (Dg.Ed)) × (Int) => (AV.tup [(AV.sl 2 (List.map encE x.1)), (AV.int x.2)])) (show (_, _) = ((Dg.cloL n l, Dg.cloE n l)) from ?_), rfl⟩
        have e1 : ¬ (Dg.chk n l ≠ 0) := by omega
        have e2 : 2000 < (Dg.clo (Dg.gr n l) n.toNat).length := by omega
        rw [Dg.cloL, Dg.cloE, if_neg e1, if_neg e1, if_pos e2, if_pos e2]
      · skip
        try simp only [decide_eq_true_eq, decide_eq_false_iff_not, Bool.not_eq_true', Bool.not_eq_false', Bool.not_eq_true, Bool.not_eq_false, List.length_map, Int.ofNat_lt, Int.ofNat_le, Bool.or_eq_true, Bool.and_eq_true, Bool.or_eq_false_iff, Bool.and_eq_false_iff] at h8
        refine awp_skip ?_
        refine awp_seq ?_
        refine awp_region ?_
        refine st_p (fun _ => by exact y_move (.plain rfl)) rfl ?_
        refine st_p (fun _ => by exact y_assign (.plain rfl)) rfl ?_
        refine st_p (fun _ => by exact y_assign (.plain rfl)) rfl ?_
        refine aops_nil ?_
        refine awp_ret ?_
        refine retG (.inr rfl) (.cons (.tmp rfl) (.cons (.tmp rfl) .nil)) (VShift.of2 (AV.Imp.tup (.cons (Sl.imp (enc := encE)) (.cons (AV.Imp.refl _) .nil))) (.nil _)) ⟨congrArg (fun x : (List (Dg.Ed)) × (Int) => (AV.tup [(AV.sl 2 (List.map encE x.1)), (AV.int x.2)])) (show (_, _) = ((Dg.cloL n l, Dg.cloE n l)) from ?_), rfl⟩
        have e1 : ¬ (Dg.chk n l ≠ 0) := by omega
        have e2 : ¬ 2000 < (Dg.clo (Dg.gr n l) n.toNat).length := by omega
        rw [Dg.cloL, Dg.cloE, if_neg e1, if_neg e1, if_neg e2, if_neg e2]

end Go.Proofs
