/- The reference: Has, Order, distances. -/
import Derived.Test.YtkaiilhpjmjnkaaU03
import Derived.Test.YtkaiilhpjmjnkaaA03
set_option linter.unusedVariables false
set_option linter.unusedSimpArgs false
set_option maxRecDepth 10000
namespace Go.Proofs
open Go.Aw Wl Dg
theorem has_c (l : List Dg.Ed) (a b : Int) (hl : l.length ≤ 1000000) : ACalls Try.prog 56 [(AV.sl 2 (List.map encE l)), (AV.int a), (AV.int b)] [] (fun v st => v = (AV.bool (decide ((⟨a, b⟩ : Dg.Ed) ∈ l))) ∧ st = []) := by
  refine acalls_body Try.func56 (by kernel_rfl) rfl Try.ntmps56 (le_ rfl) ?_
  rw [Try.results56]
  refine awp_seq ?_
  refine awp_region ?_
  refine st_p (fun _ => by exact y_assign (.plain rfl)) rfl ?_
  refine aops_nil ?_
  refine awp_seq ?_
  refine awp_seq ?_
  refine awp_region ?_
  refine st_p (fun _ => by exact y_assign (.plain rfl)) rfl ?_
  refine aops_nil ?_
  refine awp_block ?_
  refine awp_loop2 (X := Nat) [0, 1, 2] (.cons rfl (.cons rfl (.cons rfl .nil))) (fun σ x => ((7, .int (x : Int)) : Nat × AV) :: σ) (fun R x => R) (fun x => x ≤ l.length ∧ (∀ i (h : i < l.length), i < x → ¬ (l[i].u = a ∧ l[i].v = b))) (fun x => l.length - x) 0 (by exact Weak.of2 (by (repeat (first | exact .nil _ | refine .cons rfl (by first | exact AV.Imp.refl _ | exact Sl.imp | exact AV.Imp.agg RowOf.imp | exact AV.Imp.grow_sl | exact AV.Imp.nil_grow | exact AV.Imp.full_grow | exact AV.Imp.own_grow | exact AV.Imp.grow_of rfl | exact AV.Imp.sl_of rfl | exact AV.Imp.int_of (by omega) | exact AV.Imp.of_eq (by first | omega | simpa)) ?_)); done) (by (repeat (first | exact .refl _ | exact .nil _ | apply ItLe2.cons (by first | exact .here | exact k1 | exact k2 | exact k3 | exact k4 | exact k5 | exact k6 | exact k7 | exact k8 | exact k9 | exact k10 | exact k11 | exact k12 | exact k13) | apply ItLe2.cells (by first | exact .here | exact k1 | exact k2 | exact k3 | exact k4 | exact k5 | exact k6 | exact k7 | exact k8 | exact k9 | exact k10 | exact k11 | exact k12 | exact k13) (by repeat (first | exact .nil | refine .cons (by first | exact AV.Imp.refl _ | exact Sl.imp | exact AV.Imp.agg RowOf.imp | exact AV.Imp.grow_sl | exact AV.Imp.nil_grow | exact AV.Imp.full_grow | exact AV.Imp.own_grow | exact AV.Imp.grow_of rfl | exact AV.Imp.sl_of rfl | exact AV.Imp.int_of (by omega) | exact AV.Imp.of_eq (by first | omega | simpa)) ?_)) | apply ItLe2.tail0)); done)) ⟨Nat.zero_le _, by omega⟩ ?_
  rintro k ⟨hk, hinv⟩
  refine awp_seq ?_
  refine awp_seq ?_
  refine awp_region ?_
  refine st_p (fun _ => by exact y_move (.plain rfl)) rfl ?_
  refine st_p (fun _ => by exact y_move (.plain rfl)) rfl ?_
  first | refine st_p (fun _ => by exact y_lenN (.plain rfl)) rfl ?_ | refine st_p (fun _ => by exact y_len (.plain rfl)) rfl ?_ | refine st_p (fun _ => by exact y_lenArr (.plain rfl)) rfl ?_
  refine st_p (fun _ => by exact y_lss (.plain rfl) (.plain rfl)) rfl ?_
  refine aops_nil ?_
  refine awp_cond rfl (fun h1 => ?_) (fun h1 => ?_)
  · skip
    try simp only [decide_eq_true_eq, decide_eq_false_iff_not, Bool.not_eq_true', Bool.not_eq_false', Bool.not_eq_true, Bool.not_eq_false, List.length_map, Int.ofNat_lt, Int.ofNat_le, Bool.or_eq_true, Bool.and_eq_true, Bool.or_eq_false_iff, Bool.and_eq_false_iff] at h1
    refine awp_skip ?_
    refine awp_seq ?_
    refine awp_block ?_
    refine awp_seq ?_
    refine awp_region ?_
    refine st_p (fun _ => by exact y_move (.plain rfl)) rfl ?_
    refine st_p (fun _ => by exact y_move (.plain rfl)) rfl ?_
    first | refine st_p (fun _ => by exact y_indexMap (.plain rfl) (.plain rfl) rfl (by refine ⟨?_, ?_⟩; (first | omega | (simp; omega) | (simp at hc; omega) | (simp at hc ⊢; omega) | (simp; done)); rfl)) rfl ?_ | refine st_p (fun _ => by exact y_indexT (.plain rfl) (.plain rfl) (by first | omega | (simp; omega) | (simp at hc; omega) | (simp at hc ⊢; omega) | (simp; done)) (by first | omega | (simp; omega) | (simp at hc; omega) | (simp at hc ⊢; omega) | (simp; done))) rfl ?_ | refine st_p (fun _ => by exact y_index (.plain rfl) (.plain rfl) (by omega) rfl) rfl ?_ | refine st_p (fun _ => by exact y_indexArr (.plain rfl) (.plain rfl) rfl (by first | omega | (simp; omega) | (simp at hc; omega) | (simp at hc ⊢; omega) | (simp; done))) rfl ?_
    refine st_p (fun _ => by exact y_fieldE (.plain rfl) (le_ rfl)) rfl ?_
    refine st_p (fun _ => by exact y_loadE (.plain rfl) rfl) rfl ?_
    refine st_p (fun _ => by exact y_move (.plain rfl)) rfl ?_
    refine st_p (fun _ => by exact y_eql (.plain rfl) (.plain rfl)) rfl ?_
    refine st_p (fun _ => by exact y_move (.plain rfl)) rfl ?_
    refine st_g rfl rfl rfl SaysI.out (fun hc _ => by exact y_move (.plain rfl)) rfl ?_
    refine st_g rfl rfl rfl SaysI.out (fun hc _ => by exact y_move (.plain rfl)) rfl ?_
    first | refine st_g rfl rfl rfl SaysI.out (fun hc _ => by exact y_indexMap (.opt rfl hc) (.opt rfl hc) rfl (by refine ⟨?_, ?_⟩; (first | omega | (simp; omega) | (simp at hc; omega) | (simp at hc ⊢; omega) | (simp; done)); rfl)) rfl ?_ | refine st_g rfl rfl rfl SaysI.out (fun hc _ => by exact y_indexT (.opt rfl hc) (.opt rfl hc) (by first | omega | (simp; omega) | (simp at hc; omega) | (simp at hc ⊢; omega) | (simp; done)) (by first | omega | (simp; omega) | (simp at hc; omega) | (simp at hc ⊢; omega) | (simp; done))) rfl ?_ | refine st_g rfl rfl rfl SaysI.out (fun hc _ => by exact y_index (.opt rfl hc) (.opt rfl hc) (by omega) rfl) rfl ?_ | refine st_g rfl rfl rfl SaysI.out (fun hc _ => by exact y_indexArr (.opt rfl hc) (.opt rfl hc) rfl (by first | omega | (simp; omega) | (simp at hc; omega) | (simp at hc ⊢; omega) | (simp; done))) rfl ?_
    refine st_g rfl rfl rfl SaysI.out (fun hc _ => by exact y_fieldE (.opt rfl hc) (le_ rfl)) rfl ?_
    refine st_g rfl rfl rfl SaysI.out (fun hc _ => by exact y_loadE (.opt rfl hc) rfl) rfl ?_
    refine st_g rfl rfl rfl SaysI.out (fun hc _ => by exact y_move (.plain rfl)) rfl ?_
    refine st_g rfl rfl rfl SaysI.out (fun hc _ => by exact y_eql (.opt rfl hc) (.opt rfl hc)) rfl ?_
    refine st_p (fun _ => by exact y_and (.plain rfl) rfl rfl) rfl ?_
    refine aops_nil ?_
    refine awp_cond rfl (fun h2 => ?_) (fun h2 => ?_)
    · skip
      try simp only [decide_eq_true_eq, decide_eq_false_iff_not, Bool.not_eq_true', Bool.not_eq_false', Bool.not_eq_true, Bool.not_eq_false, List.length_map, Int.ofNat_lt, Int.ofNat_le, Bool.or_eq_true, Bool.and_eq_true, Bool.or_eq_false_iff, Bool.and_eq_false_iff] at h2
      have hm : (⟨a, b⟩ : Dg.Ed) ∈ l := by
        have e : l[k] = ⟨a, b⟩ := by obtain ⟨p, q⟩ := h2; rw [← p, ← q]
        rw [← e]; exact List.getElem_mem _
      refine awp_seq ?_
      refine awp_region ?_
      refine st_p (fun _ => by exact y_assign (.plain rfl)) rfl ?_
      refine aops_nil ?_
      refine awp_ret ?_
      refine retG (.inr rfl) (.cons (.tmp rfl) .nil) (VShift.of1 (AV.Imp.refl _) (.nil _)) ⟨congrArg (fun x : (Bool) => (AV.bool x)) (show _ = (decide ((⟨a, b⟩ : Dg.Ed) ∈ l)) from ?_), rfl⟩
      exact (decide_eq_true hm).symm
    · skip
      try simp only [decide_eq_true_eq, decide_eq_false_iff_not, Bool.not_eq_true', Bool.not_eq_false', Bool.not_eq_true, Bool.not_eq_false, List.length_map, Int.ofNat_lt, Int.ofNat_le, Bool.or_eq_true, Bool.and_eq_true, Bool.or_eq_false_iff, Bool.and_eq_false_iff] at h2
      have hne : ¬ (l[k].u = a ∧ l[k].v = b) := fun ⟨p, q⟩ => by
        rcases h2 with h | h
        · exact h p
        · exact h q
      refine awp_skip ?_
      refine awp_region ?_
      refine st_p (fun _ => by exact y_move (.plain rfl)) rfl ?_
      refine st_p (fun _ => by exact y_add (.plain rfl) (.plain rfl) (by first | omega | (simp; omega) | (simp at hc; omega) | (simp at hc ⊢; omega) | (simp; done))) rfl ?_
      refine st_p (fun _ => by exact y_assign (.plain rfl)) rfl ?_
      refine aops_nil ?_
      refine ⟨k + 1, ?_, ?_, Weak.of2 (by (repeat (first | exact .nil _ | refine .cons rfl (by first | exact AV.Imp.refl _ | exact Sl.imp | exact AV.Imp.agg RowOf.imp | exact AV.Imp.grow_sl | exact AV.Imp.nil_grow | exact AV.Imp.full_grow | exact AV.Imp.own_grow | exact AV.Imp.grow_of rfl | exact AV.Imp.sl_of rfl | exact AV.Imp.int_of (by omega) | exact AV.Imp.of_eq (by first | omega | simpa)) ?_)); done) (by (repeat (first | exact .refl _ | exact .nil _ | apply ItLe2.cons (by first | exact .here | exact k1 | exact k2 | exact k3 | exact k4 | exact k5 | exact k6 | exact k7 | exact k8 | exact k9 | exact k10 | exact k11 | exact k12 | exact k13) | apply ItLe2.cells (by first | exact .here | exact k1 | exact k2 | exact k3 | exact k4 | exact k5 | exact k6 | exact k7 | exact k8 | exact k9 | exact k10 | exact k11 | exact k12 | exact k13) (by repeat (first | exact .nil | refine .cons (by first | exact AV.Imp.refl _ | exact Sl.imp | exact AV.Imp.agg RowOf.imp | exact AV.Imp.grow_sl | exact AV.Imp.nil_grow | exact AV.Imp.full_grow | exact AV.Imp.own_grow | exact AV.Imp.grow_of rfl | exact AV.Imp.sl_of rfl | exact AV.Imp.int_of (by omega) | exact AV.Imp.of_eq (by first | omega | simpa)) ?_)) | apply ItLe2.tail0)); done)⟩
      · refine ⟨by omega, ?_⟩
        intro i hi hik
        by_cases e : i = k
        · subst e; exact hne
        · exact hinv i hi (by omega)
      · omega
  · skip
    try simp only [decide_eq_true_eq, decide_eq_false_iff_not, Bool.not_eq_true', Bool.not_eq_false', Bool.not_eq_true, Bool.not_eq_false, List.length_map, Int.ofNat_lt, Int.ofNat_le, Bool.or_eq_true, Bool.and_eq_true, Bool.or_eq_false_iff, Bool.and_eq_false_iff] at h1
    refine awp_exit ?_
    refine awp_seq ?_
    refine awp_region ?_
    refine st_p (fun _ => by exact y_assign (.plain rfl)) rfl ?_
    refine aops_nil ?_
    refine awp_ret ?_
    refine retG (.inr rfl) (.cons (.tmp rfl) .nil) (VShift.of1 (AV.Imp.refl _) (.nil _)) ⟨congrArg (fun x : (Bool) => (AV.bool x)) (show _ = (decide ((⟨a, b⟩ : Dg.Ed) ∈ l)) from ?_), rfl⟩
    refine (decide_eq_false fun hm => ?_).symm
    obtain ⟨i, hi, e⟩ := List.getElem_of_mem hm
    exact hinv i hi (by omega) (by rw [e]; exact ⟨rfl, rfl⟩)

theorem orderR_c (n : Int) (l : List Dg.Ed) (hl : l.length ≤ 1000000) : ACalls Try.prog 29 [(AV.int n), (AV.sl 2 (List.map encE l))] [] (fun v st => v = (AV.tup [(AV.sl 1 (List.map encI (((Dg.orderL n l, Dg.orderE n l)).1))), (AV.int (((Dg.orderL n l, Dg.orderE n l)).2))]) ∧ st = []) := by
  refine acalls_body Try.func29 (by kernel_rfl) rfl Try.ntmps29 (le_ rfl) ?_
  rw [Try.results29]
  refine awp_seq ?_
  refine awp_region ?_
  refine st_p (fun _ => by exact y_assign (.plain rfl)) rfl ?_
  refine st_p (fun _ => by exact y_assign (.plain rfl)) rfl ?_
  refine aops_nil ?_
  refine awp_seq ?_
  refine awp_seq ?_
  refine awp_region ?_
  refine st_p (fun _ => by exact y_move (.plain rfl)) rfl ?_
  refine st_p (fun _ => by exact y_move (.plain rfl)) rfl ?_
  refine aops_call (blt_lt rfl) (.plain rfl) (.cons (.plain rfl) (.cons (.imp (.plain rfl) (Sl.imp (enc := encE))) .nil)) (ACalls.here (chkR_c _ _ (by first | assumption | omega | (simp; omega) | (simp; done) | decide +kernel | (simp_all; omega))) ?_)
  refine st_p (fun _ => by exact y_neq (.plain rfl) (.plain rfl)) rfl ?_
  refine aops_nil ?_
  refine awp_cond rfl (fun h1 => ?_) (fun h1 => ?_)
  · skip
    try simp only [decide_eq_true_eq, decide_eq_false_iff_not, Bool.not_eq_true', Bool.not_eq_false', Bool.not_eq_true, Bool.not_eq_false, List.length_map, Int.ofNat_lt, Int.ofNat_le, Bool.or_eq_true, Bool.and_eq_true, Bool.or_eq_false_iff, Bool.and_eq_false_iff] at h1
    refine awp_seq ?_
    refine awp_region ?_
    refine st_p (fun _ => by exact y_buildSlice .nil rfl (le_ rfl)) rfl ?_
    refine st_p (fun _ => by exact y_assign (.plain rfl)) rfl ?_
    refine st_p (fun _ => by exact y_assign (.plain rfl)) rfl ?_
    refine aops_nil ?_
    refine awp_ret ?_
    refine retG (.inr rfl) (.cons (.tmp rfl) (.cons (.tmp rfl) .nil)) (VShift.of2 (AV.Imp.tup (.cons (Sl.imp (enc := encI)) (.cons (AV.Imp.refl _) .nil))) (.nil _)) ⟨congrArg (fun x : (List (Int)) × (Int) => (AV.tup [(AV.sl 1 (List.map encI x.1)), (AV.int x.2)])) (show (_, _) = ((Dg.orderL n l, Dg.orderE n l)) from ?_), rfl⟩
    rw [Dg.orderL, Dg.orderE, if_pos (by omega), if_pos (by omega)]
  · skip
    try simp only [decide_eq_true_eq, decide_eq_false_iff_not, Bool.not_eq_true', Bool.not_eq_false', Bool.not_eq_true, Bool.not_eq_false, List.length_map, Int.ofNat_lt, Int.ofNat_le, Bool.or_eq_true, Bool.and_eq_true, Bool.or_eq_false_iff, Bool.and_eq_false_iff] at h1
    have hck : Dg.chk n l = 0 := by omega
    have hok := Dg.okE hck
    have hnb := hok.nb
    have hlen := hok.len
    refine awp_skip ?_
    refine awp_seq ?_
    refine awp_region ?_
    refine st_p (fun _ => by exact y_buildSlice .nil rfl (le_ rfl)) rfl ?_
    refine st_p (fun _ => by exact y_assign (.plain rfl)) rfl ?_
    refine aops_nil ?_
    refine awp_seq ?_
    refine awp_region ?_
    refine st_p (fun _ => by exact y_move (.plain rfl)) rfl ?_
    refine st_n (fun _ => by exact y_makeArr (by rfl) (.plain rfl) (.plain rfl) (Int.toNat_of_nonneg (a := n) (by omega)).symm (by omega)) rfl fun nd => ?_
    refine st_p (fun _ => by exact y_assign (.plain rfl)) rfl ?_
    refine aops_nil ?_
    refine awp_seq ?_
    refine awp_block ?_
    refine awp_loop2 (X := Nat × (Int → Int) × List Int × Option Nat) [0, 1, 7] (.cons rfl (.cons rfl (.cons rfl .nil))) (fun σ x => ((6, .grow 1 x.2.2.2 (x.2.2.1.map encI)) : Nat × AV) :: σ) (fun R x => .cells nd (ea n.toNat (fun j => .bool (decide (j ∈ x.2.2.1)))) :: .tail x.2.2.2 :: R) (fun x => x.2.2.1.length + x.1 = n.toNat ∧ Dg.ord (Dg.gr n l) x.1 x.2.1 x.2.2.1 = Dg.ordO n l ∧ Dg.OI l x.2.1 x.2.2.1) (fun x => x.1) (n.toNat, Dg.deg l, [], none) (by exact Weak.of2 (by (repeat (first | exact .nil _ | refine .cons rfl (by first | exact AV.Imp.refl _ | exact Sl.imp | exact AV.Imp.agg RowOf.imp | exact AV.Imp.grow_sl | exact AV.Imp.nil_grow | exact AV.Imp.full_grow | exact AV.Imp.own_grow | exact AV.Imp.grow_of rfl | exact AV.Imp.sl_of rfl | exact AV.Imp.int_of (by omega) | exact AV.Imp.of_eq (by first | omega | simpa)) ?_)); done) (.cells .here (by rw [ea_make]; exact ImpL.of_eq (ea_congr fun j _ => by simp)) (.tail0 (.nil _)))) ⟨by simp, rfl, fun j _ => (Dg.degO_nil l j).symm, by simp⟩ ?_
    rintro ⟨f, op, out, tok⟩ ⟨hk, hord, hoi⟩
    simp only at hk hord hoi
    dsimp only
    refine awp_seq ?_
    refine awp_seq ?_
    refine awp_region ?_
    refine st_p (fun _ => by exact y_move (.plain rfl)) rfl ?_
    first | refine st_p (fun _ => by exact y_lenN (.plain rfl)) rfl ?_ | refine st_p (fun _ => by exact y_len (.plain rfl)) rfl ?_ | refine st_p (fun _ => by exact y_lenArr (.plain rfl)) rfl ?_
    refine st_p (fun _ => by exact y_move (.plain rfl)) rfl ?_
    refine st_p (fun _ => by exact y_lss (.plain rfl) (.plain rfl)) rfl ?_
    refine aops_nil ?_
    refine awp_cond rfl (fun h2 => ?_) (fun h2 => ?_)
    · skip
      try simp only [decide_eq_true_eq, decide_eq_false_iff_not, Bool.not_eq_true', Bool.not_eq_false', Bool.not_eq_true, Bool.not_eq_false, List.length_map, Int.ofNat_lt, Int.ofNat_le, Bool.or_eq_true, Bool.and_eq_true, Bool.or_eq_false_iff, Bool.and_eq_false_iff] at h2
      obtain ⟨f, rfl⟩ : ∃ f0, f = f0 + 1 := ⟨f - 1, by omega⟩
      refine awp_skip ?_
      refine awp_block ?_
      refine awp_seq ?_
      refine awp_region ?_
      refine st_p (fun _ => by exact y_assign (.plain rfl)) rfl ?_
      refine aops_nil ?_
      refine awp_seq ?_
      refine awp_seq ?_
      refine awp_region ?_
      refine st_p (fun _ => by exact y_assign (.plain rfl)) rfl ?_
      refine aops_nil ?_
      refine awp_block ?_
      refine awp_loop2 (X := Nat × Int) [0, 1, 6, 7] (.cons rfl (.cons rfl (.cons rfl (.cons rfl .nil)))) (fun σ x => ((8, .int x.2) : Nat × AV) :: ((9, .int (x.1 : Int)) : Nat × AV) :: σ) (fun R x => .cells nd (ea n.toNat (fun j => .bool (decide (j ∈ out)))) :: .tail tok :: R) (fun x => x.1 ≤ n.toNat ∧ ((x.2 = -1 ∧ ∀ y : Int, 0 ≤ y → y < (x.1 : Int) → Dg.frB l out y = false) ∨ ((0 ≤ x.2 ∧ x.2 < n) ∧ Dg.frB l out x.2 = true ∧ ∀ y : Int, 0 ≤ y → y < x.2 → Dg.frB l out y = false))) (fun x => n.toNat - x.1) (0, -1) (by exact Weak.of2 (by (repeat (first | exact .nil _ | refine .cons rfl (by first | exact AV.Imp.refl _ | exact Sl.imp | exact AV.Imp.agg RowOf.imp | exact AV.Imp.grow_sl | exact AV.Imp.nil_grow | exact AV.Imp.full_grow | exact AV.Imp.own_grow | exact AV.Imp.grow_of rfl | exact AV.Imp.sl_of rfl | exact AV.Imp.int_of (by omega) | exact AV.Imp.of_eq (by first | omega | simpa)) ?_)); done) (by (repeat (first | exact .refl _ | exact .nil _ | apply ItLe2.cons (by first | exact .here | exact k1 | exact k2 | exact k3 | exact k4 | exact k5 | exact k6 | exact k7 | exact k8 | exact k9 | exact k10 | exact k11 | exact k12 | exact k13) | apply ItLe2.cells (by first | exact .here | exact k1 | exact k2 | exact k3 | exact k4 | exact k5 | exact k6 | exact k7 | exact k8 | exact k9 | exact k10 | exact k11 | exact k12 | exact k13) (by repeat (first | exact .nil | refine .cons (by first | exact AV.Imp.refl _ | exact Sl.imp | exact AV.Imp.agg RowOf.imp | exact AV.Imp.grow_sl | exact AV.Imp.nil_grow | exact AV.Imp.full_grow | exact AV.Imp.own_grow | exact AV.Imp.grow_of rfl | exact AV.Imp.sl_of rfl | exact AV.Imp.int_of (by omega) | exact AV.Imp.of_eq (by first | omega | simpa)) ?_)) | apply ItLe2.tail0)); done)) ⟨Nat.zero_le _, .inl ⟨rfl, by omega⟩⟩ ?_
      rintro ⟨y, nx⟩ ⟨hy, hnx⟩
      simp only at hy hnx
      dsimp only
      refine awp_seq ?_
      refine awp_seq ?_
      refine awp_region ?_
      refine st_p (fun _ => by exact y_move (.plain rfl)) rfl ?_
      refine st_p (fun _ => by exact y_move (.plain rfl)) rfl ?_
      refine st_p (fun _ => by exact y_lss (.plain rfl) (.plain rfl)) rfl ?_
      refine st_p (fun _ => by exact y_move (.plain rfl)) rfl ?_
      refine st_g rfl rfl rfl SaysI.out (fun hc _ => by exact y_move (.plain rfl)) rfl ?_
      refine st_g rfl rfl rfl SaysI.out (fun hc _ => by exact y_lss (.opt rfl hc) (.plain rfl)) rfl ?_
      refine st_p (fun _ => by exact y_and (.plain rfl) rfl rfl) rfl ?_
      refine aops_nil ?_
      refine awp_cond rfl (fun h3 => ?_) (fun h3 => ?_)
      · skip
        try simp only [decide_eq_true_eq, decide_eq_false_iff_not, Bool.not_eq_true', Bool.not_eq_false', Bool.not_eq_true, Bool.not_eq_false, List.length_map, Int.ofNat_lt, Int.ofNat_le, Bool.or_eq_true, Bool.and_eq_true, Bool.or_eq_false_iff, Bool.and_eq_false_iff] at h3
        have hno : nx = -1 ∧ ∀ z : Int, 0 ≤ z → z < (y : Int) → Dg.frB l out z = false := by
          rcases hnx with h | h
          · exact h
          · omega
        refine awp_skip ?_
        refine awp_seq ?_
        refine awp_block ?_
        refine awp_seq ?_
        refine awp_region ?_
        refine st_p (fun _ => by exact y_move (.plain rfl)) rfl ?_
        refine st_p (fun _ => by exact y_move (.plain rfl)) rfl ?_
        refine st_p (fun _ => by exact y_indexArr (.plain rfl) (.plain rfl) rfl (by first | omega | (simp; omega) | (simp at hc; omega) | (simp at hc ⊢; omega) | (simp; done))) rfl ?_
        refine st_p (fun _ => by exact y_load (.plain rfl) (by first | exact .here | exact k1 | exact k2 | exact k3 | exact k4 | exact k5 | exact k6 | exact k7 | exact k8 | exact k9 | exact k10 | exact k11 | exact k12 | exact k13) (ea_getN (m := n.toNat) (t := y) _ (by omega))) rfl ?_
        refine st_p (fun _ => by exact y_not (.plain rfl)) rfl ?_
        refine st_p (fun _ => by exact y_assign (.plain rfl)) rfl ?_
        refine aops_nil ?_
        refine awp_seq ?_
        refine awp_seq ?_
        have hf0 : AV.bool (!decide ((y : Int) ∈ out)) = AV.bool (Dg.frP l out (y : Int) 0) := by unfold Dg.frP; simp
        refine awp_region ?_
        refine st_p (fun _ => by exact y_assign (.plain rfl)) rfl ?_
        refine aops_nil ?_
        refine awp_block ?_
        refine awp_loop2 (X := Nat) [0, 1, 6, 7, 8, 9] (.cons rfl (.cons rfl (.cons rfl (.cons rfl (.cons rfl (.cons rfl .nil)))))) (fun σ x => ((10, .bool (Dg.frP l out (y : Int) x)) : Nat × AV) :: ((11, .int (x : Int)) : Nat × AV) :: σ) (fun R x => .cells nd (ea n.toNat (fun j => .bool (decide (j ∈ out)))) :: .tail tok :: R) (fun x => x ≤ l.length) (fun x => l.length - x) 0 (by exact Weak.of2 (by (repeat (first | exact .nil _ | refine .cons rfl (by first | exact AV.Imp.refl _ | exact AV.Imp.of_eq hf0 | exact Sl.imp | exact AV.Imp.agg RowOf.imp | exact AV.Imp.grow_sl | exact AV.Imp.nil_grow | exact AV.Imp.full_grow | exact AV.Imp.own_grow | exact AV.Imp.grow_of rfl | exact AV.Imp.sl_of rfl | exact AV.Imp.int_of (by omega) | exact AV.Imp.of_eq (by first | omega | simpa)) ?_)); done) (by (repeat (first | exact .refl _ | exact .nil _ | apply ItLe2.cons (by first | exact .here | exact k1 | exact k2 | exact k3 | exact k4 | exact k5 | exact k6 | exact k7 | exact k8 | exact k9 | exact k10 | exact k11 | exact k12 | exact k13) | apply ItLe2.cells (by first | exact .here | exact k1 | exact k2 | exact k3 | exact k4 | exact k5 | exact k6 | exact k7 | exact k8 | exact k9 | exact k10 | exact k11 | exact k12 | exact k13) (by repeat (first | exact .nil | refine .cons (by first | exact AV.Imp.refl _ | exact Sl.imp | exact AV.Imp.agg RowOf.imp | exact AV.Imp.grow_sl | exact AV.Imp.nil_grow | exact AV.Imp.full_grow | exact AV.Imp.own_grow | exact AV.Imp.grow_of rfl | exact AV.Imp.sl_of rfl | exact AV.Imp.int_of (by omega) | exact AV.Imp.of_eq (by first | omega | simpa)) ?_)) | apply ItLe2.tail0)); done)) (Nat.zero_le _) ?_
        rintro k hk
        refine awp_seq ?_
        refine awp_seq ?_
        refine awp_region ?_
        refine st_p (fun _ => by exact y_move (.plain rfl)) rfl ?_
        refine st_p (fun _ => by exact y_move (.plain rfl)) rfl ?_
        first | refine st_p (fun _ => by exact y_lenN (.plain rfl)) rfl ?_ | refine st_p (fun _ => by exact y_len (.plain rfl)) rfl ?_ | refine st_p (fun _ => by exact y_lenArr (.plain rfl)) rfl ?_
        refine st_p (fun _ => by exact y_lss (.plain rfl) (.plain rfl)) rfl ?_
        refine aops_nil ?_
        refine awp_cond rfl (fun h4 => ?_) (fun h4 => ?_)
        · skip
          try simp only [decide_eq_true_eq, decide_eq_false_iff_not, Bool.not_eq_true', Bool.not_eq_false', Bool.not_eq_true, Bool.not_eq_false, List.length_map, Int.ofNat_lt, Int.ofNat_le, Bool.or_eq_true, Bool.and_eq_true, Bool.or_eq_false_iff, Bool.and_eq_false_iff] at h4
          refine awp_skip ?_
          refine awp_seq ?_
          refine awp_block ?_
          have hub := hok.u _ (List.getElem_mem (by assumption : k < l.length))
          refine awp_region ?_
          refine st_p (fun _ => by exact y_move (.plain rfl)) rfl ?_
          refine st_p (fun _ => by exact y_move (.plain rfl)) rfl ?_
          refine st_g rfl rfl rfl SaysI.out (fun hc _ => by exact y_move (.plain rfl)) rfl ?_
          refine st_g rfl rfl rfl SaysI.out (fun hc _ => by exact y_move (.plain rfl)) rfl ?_
          first | refine st_g rfl rfl rfl SaysI.out (fun hc _ => by exact y_indexMap (.opt rfl hc) (.opt rfl hc) rfl (by refine ⟨?_, ?_⟩; (first | omega | (simp; omega) | (simp at hc; omega) | (simp at hc ⊢; omega) | (simp; done)); rfl)) rfl ?_ | refine st_g rfl rfl rfl SaysI.out (fun hc _ => by exact y_indexT (.opt rfl hc) (.opt rfl hc) (by first | omega | (simp; omega) | (simp at hc; omega) | (simp at hc ⊢; omega) | (simp; done)) (by first | omega | (simp; omega) | (simp at hc; omega) | (simp at hc ⊢; omega) | (simp; done))) rfl ?_ | refine st_g rfl rfl rfl SaysI.out (fun hc _ => by exact y_index (.opt rfl hc) (.opt rfl hc) (by omega) rfl) rfl ?_ | refine st_g rfl rfl rfl SaysI.out (fun hc _ => by exact y_indexArr (.opt rfl hc) (.opt rfl hc) rfl (by first | omega | (simp; omega) | (simp at hc; omega) | (simp at hc ⊢; omega) | (simp; done))) rfl ?_
          refine st_g rfl rfl rfl SaysI.out (fun hc _ => by exact y_fieldE (.opt rfl hc) (le_ rfl)) rfl ?_
          refine st_g rfl rfl rfl SaysI.out (fun hc _ => by exact y_loadE (.opt rfl hc) rfl) rfl ?_
          refine st_g rfl rfl rfl SaysI.out (fun hc _ => by exact y_move (.plain rfl)) rfl ?_
          refine st_g rfl rfl rfl SaysI.out (fun hc _ => by exact y_neq (.opt rfl hc) (.opt rfl hc)) rfl ?_
          refine st_g rfl rfl rfl SaysI.out (fun hc _ => by exact y_move (.opt rfl hc)) rfl ?_
          refine st_g rfl rfl rfl SaysI.out (fun hc _ => by exact y_move (.plain rfl)) rfl ?_
          refine st_g rfl rfl rfl SaysI.out (fun hc _ => by exact y_move (.plain rfl)) rfl ?_
          refine st_g rfl rfl rfl SaysI.out (fun hc _ => by exact y_move (.plain rfl)) rfl ?_
          first | refine st_g rfl rfl rfl SaysI.out (fun hc _ => by exact y_indexMap (.opt rfl hc) (.opt rfl hc) rfl (by refine ⟨?_, ?_⟩; (first | omega | (simp; omega) | (simp at hc; omega) | (simp at hc ⊢; omega) | (simp; done)); rfl)) rfl ?_ | refine st_g rfl rfl rfl SaysI.out (fun hc _ => by exact y_indexT (.opt rfl hc) (.opt rfl hc) (by first | omega | (simp; omega) | (simp at hc; omega) | (simp at hc ⊢; omega) | (simp; done)) (by first | omega | (simp; omega) | (simp at hc; omega) | (simp at hc ⊢; omega) | (simp; done))) rfl ?_ | refine st_g rfl rfl rfl SaysI.out (fun hc _ => by exact y_index (.opt rfl hc) (.opt rfl hc) (by omega) rfl) rfl ?_ | refine st_g rfl rfl rfl SaysI.out (fun hc _ => by exact y_indexArr (.opt rfl hc) (.opt rfl hc) rfl (by first | omega | (simp; omega) | (simp at hc; omega) | (simp at hc ⊢; omega) | (simp; done))) rfl ?_
          refine st_g rfl rfl rfl SaysI.out (fun hc _ => by exact y_fieldE (.opt rfl hc) (le_ rfl)) rfl ?_
          refine st_g rfl rfl rfl SaysI.out (fun hc _ => by exact y_loadE (.opt rfl hc) rfl) rfl ?_
          refine st_g rfl rfl rfl SaysI.out (fun hc _ => by exact y_indexArr (.opt rfl hc) (.opt rfl hc) (Int.toNat_of_nonneg hub.1).symm (by omega)) rfl ?_
          refine st_g rfl rfl rfl SaysI.out (fun hc _ => by exact y_load (.opt rfl hc) (by first | exact .here | exact k1 | exact k2 | exact k3 | exact k4 | exact k5 | exact k6 | exact k7 | exact k8 | exact k9 | exact k10 | exact k11 | exact k12 | exact k13) (ea_get _ ⟨hub.1, by omega⟩)) rfl ?_
          first | refine st_g rfl rfl rfl SaysI.out (fun hc _ => by exact y_or' hc (.opt rfl hc) rfl rfl) rfl ?_ | refine st_g rfl rfl rfl SaysI.out (fun hc _ => by exact y_or (.opt rfl hc) rfl rfl) rfl ?_
          refine st_p (fun _ => by exact y_and (.plain rfl) rfl rfl) rfl ?_
          refine st_p (fun _ => by exact y_assign (.plain rfl)) rfl ?_
          refine aops_nil ?_
          refine awp_region ?_
          refine st_p (fun _ => by exact y_move (.plain rfl)) rfl ?_
          refine st_p (fun _ => by exact y_add (.plain rfl) (.plain rfl) (by first | omega | (simp; omega) | (simp at hc; omega) | (simp at hc ⊢; omega) | (simp; done))) rfl ?_
          refine st_p (fun _ => by exact y_assign (.plain rfl)) rfl ?_
          refine aops_nil ?_
          have hfs := congrArg AV.bool (Dg.frP_succ out (y : Int) (by assumption : k < l.length)).symm
          refine ⟨k + 1, by omega, by omega, ?_⟩
          exact Weak.of2 (by (repeat (first | exact .nil _ | refine .cons rfl (by first | exact AV.Imp.refl _ | exact AV.Imp.of_eq hfs | exact Sl.imp | exact AV.Imp.agg RowOf.imp | exact AV.Imp.grow_sl | exact AV.Imp.nil_grow | exact AV.Imp.full_grow | exact AV.Imp.own_grow | exact AV.Imp.grow_of rfl | exact AV.Imp.sl_of rfl | exact AV.Imp.int_of (by omega) | exact AV.Imp.of_eq (by first | omega | simpa)) ?_)); done) (by (repeat (first | exact .refl _ | exact .nil _ | apply ItLe2.cons (by first | exact .here | exact k1 | exact k2 | exact k3 | exact k4 | exact k5 | exact k6 | exact k7 | exact k8 | exact k9 | exact k10 | exact k11 | exact k12 | exact k13) | apply ItLe2.cells (by first | exact .here | exact k1 | exact k2 | exact k3 | exact k4 | exact k5 | exact k6 | exact k7 | exact k8 | exact k9 | exact k10 | exact k11 | exact k12 | exact k13) (by repeat (first | exact .nil | refine .cons (by first | exact AV.Imp.refl _ | exact Sl.imp | exact AV.Imp.agg RowOf.imp | exact AV.Imp.grow_sl | exact AV.Imp.nil_grow | exact AV.Imp.full_grow | exact AV.Imp.own_grow | exact AV.Imp.grow_of rfl | exact AV.Imp.sl_of rfl | exact AV.Imp.int_of (by omega) | exact AV.Imp.of_eq (by first | omega | simpa)) ?_)) | apply ItLe2.tail0)); done)
        · skip
          try simp only [decide_eq_true_eq, decide_eq_false_iff_not, Bool.not_eq_true', Bool.not_eq_false', Bool.not_eq_true, Bool.not_eq_false, List.length_map, Int.ofNat_lt, Int.ofNat_le, Bool.or_eq_true, Bool.and_eq_true, Bool.or_eq_false_iff, Bool.and_eq_false_iff] at h4
          obtain rfl : k = l.length := by omega
          rw [Dg.frP_all]
          refine awp_exit ?_
          refine awp_seq ?_
          refine awp_region ?_
          refine st_p (fun _ => by exact y_move (.plain rfl)) rfl ?_
          refine aops_nil ?_
          refine awp_cond rfl (fun h5 => ?_) (fun h5 => ?_)
          · skip
            try simp only [decide_eq_true_eq, decide_eq_false_iff_not, Bool.not_eq_true', Bool.not_eq_false', Bool.not_eq_true, Bool.not_eq_false, List.length_map, Int.ofNat_lt, Int.ofNat_le, Bool.or_eq_true, Bool.and_eq_true, Bool.or_eq_false_iff, Bool.and_eq_false_iff] at h5
            have hfr := h5
            refine awp_region ?_
            refine st_p (fun _ => by exact y_move (.plain rfl)) rfl ?_
            refine st_p (fun _ => by exact y_assign (.plain rfl)) rfl ?_
            refine aops_nil ?_
            refine awp_region ?_
            refine st_p (fun _ => by exact y_move (.plain rfl)) rfl ?_
            refine st_p (fun _ => by exact y_add (.plain rfl) (.plain rfl) (by first | omega | (simp; omega) | (simp at hc; omega) | (simp at hc ⊢; omega) | (simp; done))) rfl ?_
            refine st_p (fun _ => by exact y_assign (.plain rfl)) rfl ?_
            refine aops_nil ?_
            refine ⟨(y + 1, (y : Int)), ⟨by show y + 1 ≤ _; omega, .inr ⟨⟨by show (0 : Int) ≤ (y : Int); omega, by show (y : Int) < n; omega⟩, hfr, fun z hz hz2 => hno.2 z hz hz2⟩⟩, by show n.toNat - (y + 1) < n.toNat - y; omega, ?_⟩
            dsimp only
            exact Weak.of2 (by (repeat (first | exact .nil _ | refine .cons rfl (by first | exact AV.Imp.refl _ | exact Sl.imp | exact AV.Imp.agg RowOf.imp | exact AV.Imp.grow_sl | exact AV.Imp.nil_grow | exact AV.Imp.full_grow | exact AV.Imp.own_grow | exact AV.Imp.grow_of rfl | exact AV.Imp.sl_of rfl | exact AV.Imp.int_of (by omega) | exact AV.Imp.of_eq (by first | omega | simpa)) ?_)); done) (by (repeat (first | exact .refl _ | exact .nil _ | apply ItLe2.cons (by first | exact .here | exact k1 | exact k2 | exact k3 | exact k4 | exact k5 | exact k6 | exact k7 | exact k8 | exact k9 | exact k10 | exact k11 | exact k12 | exact k13) | apply ItLe2.cells (by first | exact .here | exact k1 | exact k2 | exact k3 | exact k4 | exact k5 | exact k6 | exact k7 | exact k8 | exact k9 | exact k10 | exact k11 | exact k12 | exact k13) (by repeat (first | exact .nil | refine .cons (by first | exact AV.Imp.refl _ | exact Sl.imp | exact AV.Imp.agg RowOf.imp | exact AV.Imp.grow_sl | exact AV.Imp.nil_grow | exact AV.Imp.full_grow | exact AV.Imp.own_grow | exact AV.Imp.grow_of rfl | exact AV.Imp.sl_of rfl | exact AV.Imp.int_of (by omega) | exact AV.Imp.of_eq (by first | omega | simpa)) ?_)) | apply ItLe2.tail0)); done)
          · skip
            try simp only [decide_eq_true_eq, decide_eq_false_iff_not, Bool.not_eq_true', Bool.not_eq_false', Bool.not_eq_true, Bool.not_eq_false, List.length_map, Int.ofNat_lt, Int.ofNat_le, Bool.or_eq_true, Bool.and_eq_true, Bool.or_eq_false_iff, Bool.and_eq_false_iff] at h5
            have hfr := h5
            refine awp_skip ?_
            refine awp_region ?_
            refine st_p (fun _ => by exact y_move (.plain rfl)) rfl ?_
            refine st_p (fun _ => by exact y_add (.plain rfl) (.plain rfl) (by first | omega | (simp; omega) | (simp at hc; omega) | (simp at hc ⊢; omega) | (simp; done))) rfl ?_
            refine st_p (fun _ => by exact y_assign (.plain rfl)) rfl ?_
            refine aops_nil ?_
            refine ⟨(y + 1, nx), ⟨by show y + 1 ≤ _; omega, .inl ⟨hno.1, fun z hz hz2 => ?_⟩⟩, by show n.toNat - (y + 1) < n.toNat - y; omega, ?_⟩
            · by_cases e : z = (y : Int)
              · subst e; exact hfr
              · exact hno.2 z hz (by have : z < ((y + 1 : Nat) : Int) := hz2; omega)
            · dsimp only
              exact Weak.of2 (by (repeat (first | exact .nil _ | refine .cons rfl (by first | exact AV.Imp.refl _ | exact Sl.imp | exact AV.Imp.agg RowOf.imp | exact AV.Imp.grow_sl | exact AV.Imp.nil_grow | exact AV.Imp.full_grow | exact AV.Imp.own_grow | exact AV.Imp.grow_of rfl | exact AV.Imp.sl_of rfl | exact AV.Imp.int_of (by omega) | exact AV.Imp.of_eq (by first | omega | simpa)) ?_)); done) (by (repeat (first | exact .refl _ | exact .nil _ | apply ItLe2.cons (by first | exact .here | exact k1 | exact k2 | exact k3 | exact k4 | exact k5 | exact k6 | exact k7 | exact k8 | exact k9 | exact k10 | exact k11 | exact k12 | exact k13) | apply ItLe2.cells (by first | exact .here | exact k1 | exact k2 | exact k3 | exact k4 | exact k5 | exact k6 | exact k7 | exact k8 | exact k9 | exact k10 | exact k11 | exact k12 | exact k13) (by repeat (first | exact .nil | refine .cons (by first | exact AV.Imp.refl _ | exact Sl.imp | exact AV.Imp.agg RowOf.imp | exact AV.Imp.grow_sl | exact AV.Imp.nil_grow | exact AV.Imp.full_grow | exact AV.Imp.own_grow | exact AV.Imp.grow_of rfl | exact AV.Imp.sl_of rfl | exact AV.Imp.int_of (by omega) | exact AV.Imp.of_eq (by first | omega | simpa)) ?_)) | apply ItLe2.tail0)); done)
      · skip
        try simp only [decide_eq_true_eq, decide_eq_false_iff_not, Bool.not_eq_true', Bool.not_eq_false', Bool.not_eq_true, Bool.not_eq_false, List.length_map, Int.ofNat_lt, Int.ofNat_le, Bool.or_eq_true, Bool.and_eq_true, Bool.or_eq_false_iff, Bool.and_eq_false_iff] at h3
        refine awp_exit ?_
        refine awp_seq ?_
        refine awp_seq ?_
        refine awp_region ?_
        refine st_p (fun _ => by exact y_move (.plain rfl)) rfl ?_
        refine st_p (fun _ => by exact y_lss (.plain rfl) (.plain rfl)) rfl ?_
        refine aops_nil ?_
        refine awp_cond rfl (fun h6 => ?_) (fun h6 => ?_)
        · skip
          try simp only [decide_eq_true_eq, decide_eq_false_iff_not, Bool.not_eq_true', Bool.not_eq_false', Bool.not_eq_true, Bool.not_eq_false, List.length_map, Int.ofNat_lt, Int.ofNat_le, Bool.or_eq_true, Bool.and_eq_true, Bool.or_eq_false_iff, Bool.and_eq_false_iff] at h6
          have hpn : Dg.pick n.toNat op < 0 := Dg.pick_none fun z hz hz2 e => by
            have h1 := (hoi.zero z).1 e
            rcases hnx with ⟨h2, h3⟩ | h2
            · have := h3 z hz (by omega)
              rw [this] at h1; cases h1
            · omega
          refine awp_seq ?_
          refine awp_region ?_
          refine st_p (fun _ => by exact y_buildSlice .nil rfl (le_ rfl)) rfl ?_
          refine st_p (fun _ => by exact y_assign (.plain rfl)) rfl ?_
          refine st_p (fun _ => by exact y_assign (.plain rfl)) rfl ?_
          refine aops_nil ?_
          refine awp_ret ?_
          refine retG (.inr rfl) (.cons (.tmp rfl) (.cons (.tmp rfl) .nil)) (VShift.of2 (AV.Imp.tup (.cons (Sl.imp (enc := encI)) (.cons (AV.Imp.refl _) .nil))) (.nil _)) ⟨congrArg (fun x : (List (Int)) × (Int) => (AV.tup [(AV.sl 1 (List.map encI x.1)), (AV.int x.2)])) (show (_, _) = ((Dg.orderL n l, Dg.orderE n l)) from ?_), rfl⟩
          rw [Dg.orderL, Dg.orderE, if_neg (by omega), if_neg (by omega), ← hord, Dg.ord, if_pos (show Dg.pick (Dg.gr n l).n.toNat op < 0 from hpn)]
          all_goals rfl
        · skip
          try simp only [decide_eq_true_eq, decide_eq_false_iff_not, Bool.not_eq_true', Bool.not_eq_false', Bool.not_eq_true, Bool.not_eq_false, List.length_map, Int.ofNat_lt, Int.ofNat_le, Bool.or_eq_true, Bool.and_eq_true, Bool.or_eq_false_iff, Bool.and_eq_false_iff] at h6
          obtain ⟨hnr, hf1, hf2⟩ : (0 ≤ nx ∧ nx < n) ∧ Dg.frB l out nx = true ∧ ∀ z : Int, 0 ≤ z → z < nx → Dg.frB l out z = false := by
            rcases hnx with ⟨h2, h3⟩ | h2
            · omega
            · exact h2
          have hp0 := (hoi.zero nx).2 hf1
          have hpk : Dg.pick n.toNat op = nx := Dg.pick_eq ⟨hnr.1, by omega⟩ hp0 (fun z hz hz2 e => by have h1 := (hoi.zero z).1 e; rw [hf2 z hz hz2] at h1; cases h1)
          refine awp_skip ?_
          refine awp_region ?_
          refine st_p (fun _ => by exact y_move (.plain rfl)) rfl ?_
          refine st_p (fun _ => by exact y_move (.plain rfl)) rfl ?_
          refine st_p (fun _ => by exact y_move (.plain rfl)) rfl ?_
          refine st_p (fun _ => by exact y_move (.plain rfl)) rfl ?_
          refine st_p (fun _ => by exact y_buildSlice (.cons (.plain rfl) inferInstance (by rfl) .nil) rfl (le_ rfl)) rfl ?_
          first | refine st_append (by rfl) (.plain rfl) (.plain rfl) (by first | (simp; try omega) | omega) rfl fun tA => ?_ | refine st_appendT (by rfl) (.plain rfl) (.plain rfl) (by first | exact .here | exact k1 | exact k2 | exact k3 | exact k4 | exact k5 | exact k6 | exact k7 | exact k8 | exact k9 | exact k10 | exact k11 | exact k12 | exact k13) (by first | (simp; try omega) | omega) rfl fun tA => ?_ | refine st_append0 (by rfl) (.plain rfl) (.plain rfl) (by first | (simp; try omega) | omega) rfl fun tA => ?_ | refine st_append0 (by rfl) (.imp (.plain rfl) AV.Imp.nil_grow) (.plain rfl) (by first | (simp; try omega) | omega) rfl fun tA => ?_ | refine st_append0 (by rfl) (.imp (.plain rfl) AV.Imp.full_grow) (.plain rfl) (by first | (simp; try omega) | omega) rfl fun tA => ?_ | refine st_appendT (by rfl) (.imp (.plain rfl) AV.Imp.own_grow) (.plain rfl) (by first | exact .here | exact k1 | exact k2 | exact k3 | exact k4 | exact k5 | exact k6 | exact k7 | exact k8 | exact k9 | exact k10 | exact k11 | exact k12 | exact k13) (by first | (simp; try omega) | omega) rfl fun tA => ?_
          refine st_p (fun _ => by exact y_assign (.plain rfl)) rfl ?_
          refine st_p (fun _ => by exact y_indexArr (.plain rfl) (.plain rfl) (Int.toNat_of_nonneg hnr.1).symm (by omega)) rfl ?_
          refine st_s (fun _ => by exact y_store (by rfl) rfl (.plain rfl) (.plain rfl) (by first | exact .here | exact u1 | exact u2 | exact u3 | exact u4 | exact u5 | exact u6 | exact u7 | exact u8 | exact u9 | exact u10 | exact u11 | exact u12 | exact u13) (by rw [ea_len]; simp; omega)) ?_
          refine aops_nil ?_
          refine ⟨(f, Dg.decs (Dg.upd op nx (-1)) (Dg.suc (Dg.gr n l) nx), out ++ [nx], tA), ⟨?_, ?_, ?_⟩, by show f < f + 1; omega, ?_⟩
          · simp only [List.length_append, List.length_singleton]; omega
          · rw [← hord, Dg.ord, if_neg (by show ¬ Dg.pick n.toNat op < 0; omega)]
            show Dg.ord _ _ _ _ = Dg.ord (Dg.gr n l) f (Dg.decs (Dg.upd op (Dg.pick n.toNat op) (-1)) (Dg.suc (Dg.gr n l) (Dg.pick n.toNat op))) (out ++ [Dg.pick n.toNat op])
            rw [hpk]
          · show Dg.OI l (Dg.decs (Dg.upd op nx (-1)) (Dg.suc (Dg.gr n l) nx)) (out ++ [nx])
            rw [Dg.suc_gr hnr]; exact hoi.next hp0
          · dsimp only
            rw [ea_set _ _ ⟨hnr.1, by omega⟩, show (ea n.toNat fun j => if j = nx then AV.bool true else AV.bool (decide (j ∈ out))) = (ea n.toNat (fun j => .bool (decide (j ∈ (out ++ [nx]))))) from ea_congr fun j _ => by split <;> simp_all]
            exact Weak.of2 (by (repeat (first | exact .nil _ | refine .cons rfl (by first | exact AV.Imp.refl _ | exact Sl.imp | exact AV.Imp.agg RowOf.imp | exact AV.Imp.grow_sl | exact AV.Imp.nil_grow | exact AV.Imp.full_grow | exact AV.Imp.own_grow | exact AV.Imp.grow_of rfl | exact AV.Imp.sl_of rfl | exact AV.Imp.int_of (by omega) | exact AV.Imp.of_eq (by first | omega | simpa)) ?_)); done) (by (repeat (first | exact .refl _ | exact .nil _ | apply ItLe2.cons (by first | exact .here | exact k1 | exact k2 | exact k3 | exact k4 | exact k5 | exact k6 | exact k7 | exact k8 | exact k9 | exact k10 | exact k11 | exact k12 | exact k13) | apply ItLe2.cells (by first | exact .here | exact k1 | exact k2 | exact k3 | exact k4 | exact k5 | exact k6 | exact k7 | exact k8 | exact k9 | exact k10 | exact k11 | exact k12 | exact k13) (by repeat (first | exact .nil | refine .cons (by first | exact AV.Imp.refl _ | exact Sl.imp | exact AV.Imp.agg RowOf.imp | exact AV.Imp.grow_sl | exact AV.Imp.nil_grow | exact AV.Imp.full_grow | exact AV.Imp.own_grow | exact AV.Imp.grow_of rfl | exact AV.Imp.sl_of rfl | exact AV.Imp.int_of (by omega) | exact AV.Imp.of_eq (by first | omega | simpa)) ?_)) | apply ItLe2.tail0)); done)
    · skip
      try simp only [decide_eq_true_eq, decide_eq_false_iff_not, Bool.not_eq_true', Bool.not_eq_false', Bool.not_eq_true, Bool.not_eq_false, List.length_map, Int.ofNat_lt, Int.ofNat_le, Bool.or_eq_true, Bool.and_eq_true, Bool.or_eq_false_iff, Bool.and_eq_false_iff] at h2
      obtain rfl : f = 0 := by omega
      refine awp_exit ?_
      refine awp_seq ?_
      refine awp_region ?_
      refine st_p (fun _ => by exact y_move (.plain rfl)) rfl ?_
      refine st_p (fun _ => by exact y_assign (.plain rfl)) rfl ?_
      refine st_p (fun _ => by exact y_assign (.plain rfl)) rfl ?_
      refine aops_nil ?_
      refine awp_ret ?_
      refine retG (.inr rfl) (.cons (.tmp rfl) (.cons (.tmp rfl) .nil)) (VShift.of2 (AV.Imp.tup (.cons (Sl.imp (enc := encI)) (.cons (AV.Imp.refl _) .nil))) (.nil _)) ⟨congrArg (fun x : (List (Int)) × (Int) => (AV.tup [(AV.sl 1 (List.map encI x.1)), (AV.int x.2)])) (show (_, _) = ((Dg.orderL n l, Dg.orderE n l)) from ?_), rfl⟩
      rw [Dg.orderL, Dg.orderE, if_neg (by omega), if_neg (by omega), ← hord, Dg.ord]
      all_goals rfl

theorem distR_c (n : Int) (l : List Dg.Ed) (t : Int) (hck : Dg.chk n l = 0) (ht : 0 ≤ t ∧ t < n) : ACalls Try.prog 55 [(AV.int n), (AV.sl 2 (List.map encE l)), (AV.int t)] [] (fun v st => v = (AV.sl 1 (List.map encI (Dg.distL (Dg.gr n l) t))) ∧ st = []) := by
  refine acalls_body Try.func55 (by kernel_rfl) rfl Try.ntmps55 (le_ rfl) ?_
  rw [Try.results55]
  have hok := Dg.okE hck
  have hnb := hok.nb
  have hlen := hok.len
  refine awp_seq ?_
  refine awp_region ?_
  refine st_p (fun _ => by exact y_assign (.plain rfl)) rfl ?_
  refine aops_nil ?_
  refine awp_seq ?_
  refine awp_region ?_
  refine st_p (fun _ => by exact y_move (.plain rfl)) rfl ?_
  refine st_n (fun _ => by exact y_makeArr (by rfl) (.plain rfl) (.plain rfl) (Int.toNat_of_nonneg (a := n) (by omega)).symm (by omega)) rfl fun nj => ?_
  refine st_p (fun _ => by exact y_assign (.plain rfl)) rfl ?_
  refine aops_nil ?_
  refine awp_seq ?_
  refine awp_seq ?_
  refine awp_region ?_
  refine st_p (fun _ => by exact y_assign (.plain rfl)) rfl ?_
  refine aops_nil ?_
  refine awp_block ?_
  refine awp_loop2 (X := Nat) [0, 1, 2, 7] (.cons rfl (.cons rfl (.cons rfl (.cons rfl .nil)))) (fun σ x => ((8, .int (x : Int)) : Nat × AV) :: σ) (fun R x => .cells nj (ea n.toNat (fun j => .int (if j < ((x : Nat) : Int) then -1 else 0))) :: R) (fun x => x ≤ n.toNat) (fun x => n.toNat - x) 0 (by exact Weak.of2 (by (repeat (first | exact .nil _ | refine .cons rfl (by first | exact AV.Imp.refl _ | exact Sl.imp | exact AV.Imp.agg RowOf.imp | exact AV.Imp.grow_sl | exact AV.Imp.nil_grow | exact AV.Imp.full_grow | exact AV.Imp.own_grow | exact AV.Imp.grow_of rfl | exact AV.Imp.sl_of rfl | exact AV.Imp.int_of (by omega) | exact AV.Imp.of_eq (by first | omega | simpa)) ?_)); done) (.cells .here (by rw [ea_make]; exact ImpL.of_eq (ea_congr fun j hj => by rw [if_neg (by omega)])) (.nil _))) (Nat.zero_le _) ?_
  rintro k hk
  refine awp_seq ?_
  refine awp_seq ?_
  refine awp_region ?_
  refine st_p (fun _ => by exact y_move (.plain rfl)) rfl ?_
  refine st_p (fun _ => by exact y_move (.plain rfl)) rfl ?_
  refine st_p (fun _ => by exact y_lss (.plain rfl) (.plain rfl)) rfl ?_
  refine aops_nil ?_
  refine awp_cond rfl (fun h1 => ?_) (fun h1 => ?_)
  · skip
    try simp only [decide_eq_true_eq, decide_eq_false_iff_not, Bool.not_eq_true', Bool.not_eq_false', Bool.not_eq_true, Bool.not_eq_false, List.length_map, Int.ofNat_lt, Int.ofNat_le, Bool.or_eq_true, Bool.and_eq_true, Bool.or_eq_false_iff, Bool.and_eq_false_iff] at h1
    refine awp_skip ?_
    refine awp_seq ?_
    refine awp_block ?_
    refine awp_region ?_
    refine st_p (fun _ => by exact y_move (.plain rfl)) rfl ?_
    refine st_p (fun _ => by exact y_move (.plain rfl)) rfl ?_
    refine st_p (fun _ => by exact y_indexArr (.plain rfl) (.plain rfl) rfl (by first | omega | (simp; omega) | (simp at hc; omega) | (simp at hc ⊢; omega) | (simp; done))) rfl ?_
    refine st_s (fun _ => by exact y_store (by rfl) rfl (.plain rfl) (.plain rfl) (by first | exact .here | exact u1 | exact u2 | exact u3 | exact u4 | exact u5 | exact u6 | exact u7 | exact u8 | exact u9 | exact u10 | exact u11 | exact u12 | exact u13) (by rw [ea_len]; simp; omega)) ?_
    refine aops_nil ?_
    refine awp_region ?_
    refine st_p (fun _ => by exact y_move (.plain rfl)) rfl ?_
    refine st_p (fun _ => by exact y_add (.plain rfl) (.plain rfl) (by first | omega | (simp; omega) | (simp at hc; omega) | (simp at hc ⊢; omega) | (simp; done))) rfl ?_
    refine st_p (fun _ => by exact y_assign (.plain rfl)) rfl ?_
    refine aops_nil ?_
    refine ⟨k + 1, by omega, by omega, ?_⟩
    rw [ea_setN _ _ (by omega), show (ea n.toNat fun j => if j = (k : Int) then AV.int (-1) else AV.int (if j < ((k : Nat) : Int) then -1 else 0)) = ea n.toNat (fun j => .int (if j < ((k + 1 : Nat) : Int) then -1 else 0)) from ea_congr fun j _ => by
      by_cases e : j = (k : Int)
      · rw [if_pos e, if_pos (by omega)]
      · rw [if_neg e]; by_cases e2 : j < (k : Int)
        · rw [if_pos e2, if_pos (by omega)]
        · rw [if_neg e2, if_neg (by omega)]]
    exact Weak.of2 (by (repeat (first | exact .nil _ | refine .cons rfl (by first | exact AV.Imp.refl _ | exact Sl.imp | exact AV.Imp.agg RowOf.imp | exact AV.Imp.grow_sl | exact AV.Imp.nil_grow | exact AV.Imp.full_grow | exact AV.Imp.own_grow | exact AV.Imp.grow_of rfl | exact AV.Imp.sl_of rfl | exact AV.Imp.int_of (by omega) | exact AV.Imp.of_eq (by first | omega | simpa)) ?_)); done) (by (repeat (first | exact .refl _ | exact .nil _ | apply ItLe2.cons (by first | exact .here | exact k1 | exact k2 | exact k3 | exact k4 | exact k5 | exact k6 | exact k7 | exact k8 | exact k9 | exact k10 | exact k11 | exact k12 | exact k13) | apply ItLe2.cells (by first | exact .here | exact k1 | exact k2 | exact k3 | exact k4 | exact k5 | exact k6 | exact k7 | exact k8 | exact k9 | exact k10 | exact k11 | exact k12 | exact k13) (by repeat (first | exact .nil | refine .cons (by first | exact AV.Imp.refl _ | exact Sl.imp | exact AV.Imp.agg RowOf.imp | exact AV.Imp.grow_sl | exact AV.Imp.nil_grow | exact AV.Imp.full_grow | exact AV.Imp.own_grow | exact AV.Imp.grow_of rfl | exact AV.Imp.sl_of rfl | exact AV.Imp.int_of (by omega) | exact AV.Imp.of_eq (by first | omega | simpa)) ?_)) | apply ItLe2.tail0)); done)
  · skip
    try simp only [decide_eq_true_eq, decide_eq_false_iff_not, Bool.not_eq_true', Bool.not_eq_false', Bool.not_eq_true, Bool.not_eq_false, List.length_map, Int.ofNat_lt, Int.ofNat_le, Bool.or_eq_true, Bool.and_eq_true, Bool.or_eq_false_iff, Bool.and_eq_false_iff] at h1
    refine awp_exit ?_
    refine awp_seq ?_
    obtain rfl : k = n.toNat := by omega
    rw [show (ea n.toNat fun j => AV.int (if j < ((n.toNat : Nat) : Int) then -1 else 0)) = ea n.toNat (fun _ => .int (-1)) from ea_congr fun j hj => by rw [if_pos (by omega)]]
    refine awp_region ?_
    refine st_p (fun _ => by exact y_move (.plain rfl)) rfl ?_
    refine st_p (fun _ => by exact y_move (.plain rfl)) rfl ?_
    refine st_p (fun _ => by exact y_indexArr (.plain rfl) (.plain rfl) (Int.toNat_of_nonneg ht.1).symm (by omega)) rfl ?_
    refine st_s (fun _ => by exact y_store (by rfl) rfl (.plain rfl) (.plain rfl) (by first | exact .here | exact u1 | exact u2 | exact u3 | exact u4 | exact u5 | exact u6 | exact u7 | exact u8 | exact u9 | exact u10 | exact u11 | exact u12 | exact u13) (by rw [ea_len]; simp; omega)) ?_
    refine aops_nil ?_
    rw [ea_setI (f := fun _ => -1) _ ⟨ht.1, by omega⟩]
    refine awp_seq ?_
    refine awp_seq ?_
    refine awp_region ?_
    refine st_p (fun _ => by exact y_assign (.plain rfl)) rfl ?_
    refine aops_nil ?_
    refine awp_block ?_
    refine awp_loop2 (X := Nat × (Int → Int)) [0, 1, 7] (.cons rfl (.cons rfl (.cons rfl .nil))) (fun σ x => ((9, .int (x.1 : Int)) : Nat × AV) :: σ) (fun R x => .cells nj (ea n.toNat (fun j => .int (x.2 j))) :: R) (fun x => x.1 ≤ n.toNat ∧ Dg.RI n l t (x.1 : Int) (x.1 : Int) x.2) (fun x => n.toNat - x.1) (0, Dg.upd (fun _ => -1) t 0) (by exact Weak.of2 (by (repeat (first | exact .nil _ | refine .cons rfl (by first | exact AV.Imp.refl _ | exact Sl.imp | exact AV.Imp.agg RowOf.imp | exact AV.Imp.grow_sl | exact AV.Imp.nil_grow | exact AV.Imp.full_grow | exact AV.Imp.own_grow | exact AV.Imp.grow_of rfl | exact AV.Imp.sl_of rfl | exact AV.Imp.int_of (by omega) | exact AV.Imp.of_eq (by first | omega | simpa)) ?_)); done) (by (repeat (first | exact .refl _ | exact .nil _ | apply ItLe2.cons (by first | exact .here | exact k1 | exact k2 | exact k3 | exact k4 | exact k5 | exact k6 | exact k7 | exact k8 | exact k9 | exact k10 | exact k11 | exact k12 | exact k13) | apply ItLe2.cells (by first | exact .here | exact k1 | exact k2 | exact k3 | exact k4 | exact k5 | exact k6 | exact k7 | exact k8 | exact k9 | exact k10 | exact k11 | exact k12 | exact k13) (by repeat (first | exact .nil | refine .cons (by first | exact AV.Imp.refl _ | exact Sl.imp | exact AV.Imp.agg RowOf.imp | exact AV.Imp.grow_sl | exact AV.Imp.nil_grow | exact AV.Imp.full_grow | exact AV.Imp.own_grow | exact AV.Imp.grow_of rfl | exact AV.Imp.sl_of rfl | exact AV.Imp.int_of (by omega) | exact AV.Imp.of_eq (by first | omega | simpa)) ?_)) | apply ItLe2.tail0)); done)) ⟨Nat.zero_le _, Dg.RI.start hnb.1 ht⟩ ?_
    rintro ⟨r, d⟩ ⟨hr, hri⟩
    simp only at hr hri
    dsimp only
    refine awp_seq ?_
    refine awp_seq ?_
    refine awp_region ?_
    refine st_p (fun _ => by exact y_move (.plain rfl)) rfl ?_
    refine st_p (fun _ => by exact y_move (.plain rfl)) rfl ?_
    refine st_p (fun _ => by exact y_lss (.plain rfl) (.plain rfl)) rfl ?_
    refine aops_nil ?_
    refine awp_cond rfl (fun h2 => ?_) (fun h2 => ?_)
    · skip
      try simp only [decide_eq_true_eq, decide_eq_false_iff_not, Bool.not_eq_true', Bool.not_eq_false', Bool.not_eq_true, Bool.not_eq_false, List.length_map, Int.ofNat_lt, Int.ofNat_le, Bool.or_eq_true, Bool.and_eq_true, Bool.or_eq_false_iff, Bool.and_eq_false_iff] at h2
      refine awp_skip ?_
      refine awp_seq ?_
      refine awp_block ?_
      refine awp_seq ?_
      refine awp_region ?_
      refine st_p (fun _ => by exact y_assign (.plain rfl)) rfl ?_
      refine aops_nil ?_
      refine awp_block ?_
      refine awp_loop2 (X := Nat × (Int → Int)) [0, 1, 7, 9] (.cons rfl (.cons rfl (.cons rfl (.cons rfl .nil)))) (fun σ x => ((10, .int (x.1 : Int)) : Nat × AV) :: σ) (fun R x => .cells nj (ea n.toNat (fun j => .int (x.2 j))) :: R) (fun x => x.1 ≤ l.length ∧ Dg.RI n l t (r : Int) ((r : Int) + 1) x.2 ∧ ∀ i (h : i < l.length), i < x.1 → x.2 l[i].v = (r : Int) → 0 ≤ x.2 l[i].u) (fun x => l.length - x.1) (0, d) (by exact Weak.of2 (by (repeat (first | exact .nil _ | refine .cons rfl (by first | exact AV.Imp.refl _ | exact Sl.imp | exact AV.Imp.agg RowOf.imp | exact AV.Imp.grow_sl | exact AV.Imp.nil_grow | exact AV.Imp.full_grow | exact AV.Imp.own_grow | exact AV.Imp.grow_of rfl | exact AV.Imp.sl_of rfl | exact AV.Imp.int_of (by omega) | exact AV.Imp.of_eq (by first | omega | simpa)) ?_)); done) (by (repeat (first | exact .refl _ | exact .nil _ | apply ItLe2.cons (by first | exact .here | exact k1 | exact k2 | exact k3 | exact k4 | exact k5 | exact k6 | exact k7 | exact k8 | exact k9 | exact k10 | exact k11 | exact k12 | exact k13) | apply ItLe2.cells (by first | exact .here | exact k1 | exact k2 | exact k3 | exact k4 | exact k5 | exact k6 | exact k7 | exact k8 | exact k9 | exact k10 | exact k11 | exact k12 | exact k13) (by repeat (first | exact .nil | refine .cons (by first | exact AV.Imp.refl _ | exact Sl.imp | exact AV.Imp.agg RowOf.imp | exact AV.Imp.grow_sl | exact AV.Imp.nil_grow | exact AV.Imp.full_grow | exact AV.Imp.own_grow | exact AV.Imp.grow_of rfl | exact AV.Imp.sl_of rfl | exact AV.Imp.int_of (by omega) | exact AV.Imp.of_eq (by first | omega | simpa)) ?_)) | apply ItLe2.tail0)); done)) ⟨Nat.zero_le _, ⟨hri.lab, hri.self, hri.low, hri.cnt, fun j => by have := hri.top j; show d j ≤ _; omega, hri.pr⟩, fun i _ hi => absurd hi (by omega)⟩ ?_
      rintro ⟨k, d1⟩ ⟨hk, hri1, hall⟩
      simp only at hk hri1 hall
      dsimp only
      refine awp_seq ?_
      refine awp_seq ?_
      refine awp_region ?_
      refine st_p (fun _ => by exact y_move (.plain rfl)) rfl ?_
      refine st_p (fun _ => by exact y_move (.plain rfl)) rfl ?_
      first | refine st_p (fun _ => by exact y_lenN (.plain rfl)) rfl ?_ | refine st_p (fun _ => by exact y_len (.plain rfl)) rfl ?_ | refine st_p (fun _ => by exact y_lenArr (.plain rfl)) rfl ?_
      refine st_p (fun _ => by exact y_lss (.plain rfl) (.plain rfl)) rfl ?_
      refine aops_nil ?_
      refine awp_cond rfl (fun h3 => ?_) (fun h3 => ?_)
      · skip
        try simp only [decide_eq_true_eq, decide_eq_false_iff_not, Bool.not_eq_true', Bool.not_eq_false', Bool.not_eq_true, Bool.not_eq_false, List.length_map, Int.ofNat_lt, Int.ofNat_le, Bool.or_eq_true, Bool.and_eq_true, Bool.or_eq_false_iff, Bool.and_eq_false_iff] at h3
        refine awp_skip ?_
        refine awp_seq ?_
        refine awp_block ?_
        refine awp_seq ?_
        have hub := hok.u _ (List.getElem_mem (by assumption : k < l.length))
        have hvb := hok.v _ (List.getElem_mem (by assumption : k < l.length))
        refine awp_region ?_
        refine st_p (fun _ => by exact y_move (.plain rfl)) rfl ?_
        refine st_p (fun _ => by exact y_move (.plain rfl)) rfl ?_
        refine st_p (fun _ => by exact y_move (.plain rfl)) rfl ?_
        first | refine st_p (fun _ => by exact y_indexMap (.plain rfl) (.plain rfl) rfl (by refine ⟨?_, ?_⟩; (first | omega | (simp; omega) | (simp at hc; omega) | (simp at hc ⊢; omega) | (simp; done)); rfl)) rfl ?_ | refine st_p (fun _ => by exact y_indexT (.plain rfl) (.plain rfl) (by first | omega | (simp; omega) | (simp at hc; omega) | (simp at hc ⊢; omega) | (simp; done)) (by first | omega | (simp; omega) | (simp at hc; omega) | (simp at hc ⊢; omega) | (simp; done))) rfl ?_ | refine st_p (fun _ => by exact y_index (.plain rfl) (.plain rfl) (by omega) rfl) rfl ?_ | refine st_p (fun _ => by exact y_indexArr (.plain rfl) (.plain rfl) rfl (by first | omega | (simp; omega) | (simp at hc; omega) | (simp at hc ⊢; omega) | (simp; done))) rfl ?_
        refine st_p (fun _ => by exact y_fieldE (.plain rfl) (le_ rfl)) rfl ?_
        refine st_p (fun _ => by exact y_loadE (.plain rfl) rfl) rfl ?_
        refine st_p (fun _ => by exact y_indexArr (.plain rfl) (.plain rfl) (Int.toNat_of_nonneg hvb.1).symm (by omega)) rfl ?_
        refine st_p (fun _ => by exact y_load (.plain rfl) (by first | exact .here | exact k1 | exact k2 | exact k3 | exact k4 | exact k5 | exact k6 | exact k7 | exact k8 | exact k9 | exact k10 | exact k11 | exact k12 | exact k13) (ea_get _ ⟨hvb.1, by omega⟩)) rfl ?_
        refine st_p (fun _ => by exact y_move (.plain rfl)) rfl ?_
        refine st_p (fun _ => by exact y_eql (.plain rfl) (.plain rfl)) rfl ?_
        refine st_p (fun _ => by exact y_move (.plain rfl)) rfl ?_
        refine st_g rfl rfl rfl SaysI.out (fun hc _ => by exact y_move (.plain rfl)) rfl ?_
        refine st_g rfl rfl rfl SaysI.out (fun hc _ => by exact y_move (.plain rfl)) rfl ?_
        refine st_g rfl rfl rfl SaysI.out (fun hc _ => by exact y_move (.plain rfl)) rfl ?_
        first | refine st_g rfl rfl rfl SaysI.out (fun hc _ => by exact y_indexMap (.opt rfl hc) (.opt rfl hc) rfl (by refine ⟨?_, ?_⟩; (first | omega | (simp; omega) | (simp at hc; omega) | (simp at hc ⊢; omega) | (simp; done)); rfl)) rfl ?_ | refine st_g rfl rfl rfl SaysI.out (fun hc _ => by exact y_indexT (.opt rfl hc) (.opt rfl hc) (by first | omega | (simp; omega) | (simp at hc; omega) | (simp at hc ⊢; omega) | (simp; done)) (by first | omega | (simp; omega) | (simp at hc; omega) | (simp at hc ⊢; omega) | (simp; done))) rfl ?_ | refine st_g rfl rfl rfl SaysI.out (fun hc _ => by exact y_index (.opt rfl hc) (.opt rfl hc) (by omega) rfl) rfl ?_ | refine st_g rfl rfl rfl SaysI.out (fun hc _ => by exact y_indexArr (.opt rfl hc) (.opt rfl hc) rfl (by first | omega | (simp; omega) | (simp at hc; omega) | (simp at hc ⊢; omega) | (simp; done))) rfl ?_
        refine st_g rfl rfl rfl SaysI.out (fun hc _ => by exact y_fieldE (.opt rfl hc) (le_ rfl)) rfl ?_
        refine st_g rfl rfl rfl SaysI.out (fun hc _ => by exact y_loadE (.opt rfl hc) rfl) rfl ?_
        refine st_g rfl rfl rfl SaysI.out (fun hc _ => by exact y_indexArr (.opt rfl hc) (.opt rfl hc) (Int.toNat_of_nonneg hub.1).symm (by omega)) rfl ?_
        refine st_g rfl rfl rfl SaysI.out (fun hc _ => by exact y_load (.opt rfl hc) (by first | exact .here | exact k1 | exact k2 | exact k3 | exact k4 | exact k5 | exact k6 | exact k7 | exact k8 | exact k9 | exact k10 | exact k11 | exact k12 | exact k13) (ea_get _ ⟨hub.1, by omega⟩)) rfl ?_
        refine st_g rfl rfl rfl SaysI.out (fun hc _ => by exact y_lss (.opt rfl hc) (.plain rfl)) rfl ?_
        refine st_p (fun _ => by exact y_and (.plain rfl) rfl rfl) rfl ?_
        refine aops_nil ?_
        refine awp_cond rfl (fun h4 => ?_) (fun h4 => ?_)
        · skip
          try simp only [decide_eq_true_eq, decide_eq_false_iff_not, Bool.not_eq_true', Bool.not_eq_false', Bool.not_eq_true, Bool.not_eq_false, List.length_map, Int.ofNat_lt, Int.ofNat_le, Bool.or_eq_true, Bool.and_eq_true, Bool.or_eq_false_iff, Bool.and_eq_false_iff] at h4
          have hdv := h4
          refine awp_region ?_
          refine st_p (fun _ => by exact y_move (.plain rfl)) rfl ?_
          refine st_p (fun _ => by exact y_move (.plain rfl)) rfl ?_
          refine st_p (fun _ => by exact y_move (.plain rfl)) rfl ?_
          first | refine st_p (fun _ => by exact y_indexMap (.plain rfl) (.plain rfl) rfl (by refine ⟨?_, ?_⟩; (first | omega | (simp; omega) | (simp at hc; omega) | (simp at hc ⊢; omega) | (simp; done)); rfl)) rfl ?_ | refine st_p (fun _ => by exact y_indexT (.plain rfl) (.plain rfl) (by first | omega | (simp; omega) | (simp at hc; omega) | (simp at hc ⊢; omega) | (simp; done)) (by first | omega | (simp; omega) | (simp at hc; omega) | (simp at hc ⊢; omega) | (simp; done))) rfl ?_ | refine st_p (fun _ => by exact y_index (.plain rfl) (.plain rfl) (by omega) rfl) rfl ?_ | refine st_p (fun _ => by exact y_indexArr (.plain rfl) (.plain rfl) rfl (by first | omega | (simp; omega) | (simp at hc; omega) | (simp at hc ⊢; omega) | (simp; done))) rfl ?_
          refine st_p (fun _ => by exact y_fieldE (.plain rfl) (le_ rfl)) rfl ?_
          refine st_p (fun _ => by exact y_loadE (.plain rfl) rfl) rfl ?_
          refine st_p (fun _ => by exact y_move (.plain rfl)) rfl ?_
          refine st_p (fun _ => by exact y_add (.plain rfl) (.plain rfl) (by first | omega | (simp; omega) | (simp at hc; omega) | (simp at hc ⊢; omega) | (simp; done))) rfl ?_
          refine st_p (fun _ => by exact y_indexArr (.plain rfl) (.plain rfl) (Int.toNat_of_nonneg hub.1).symm (by omega)) rfl ?_
          refine st_s (fun _ => by exact y_store (by rfl) rfl (.plain rfl) (.plain rfl) (by first | exact .here | exact u1 | exact u2 | exact u3 | exact u4 | exact u5 | exact u6 | exact u7 | exact u8 | exact u9 | exact u10 | exact u11 | exact u12 | exact u13) (by rw [ea_len]; simp; omega)) ?_
          refine aops_nil ?_
          refine awp_region ?_
          refine st_p (fun _ => by exact y_move (.plain rfl)) rfl ?_
          refine st_p (fun _ => by exact y_add (.plain rfl) (.plain rfl) (by first | omega | (simp; omega) | (simp at hc; omega) | (simp at hc ⊢; omega) | (simp; done))) rfl ?_
          refine st_p (fun _ => by exact y_assign (.plain rfl)) rfl ?_
          refine aops_nil ?_
          refine ⟨(k + 1, Dg.upd d1 l[k].u ((r : Int) + 1)), ⟨by show k + 1 ≤ _; omega, hri1.step (by omega) (List.getElem_mem _) hdv.1 hdv.2 hub, fun i hi hik hv => ?_⟩, by show l.length - (k + 1) < l.length - k; omega, ?_⟩
          · have hv2 : Dg.upd d1 l[k].u ((r : Int) + 1) l[i].v = (r : Int) := hv
            show 0 ≤ Dg.upd d1 l[k].u ((r : Int) + 1) l[i].u
            unfold Dg.upd at hv2 ⊢
            split at hv2
            · omega
            · split
              · omega
              · by_cases e : i = k
                · subst e; simp_all
                · exact hall i hi (by have : i < k + 1 := hik; omega) hv2
          · dsimp only
            rw [ea_setI (f := d1) _ ⟨hub.1, by omega⟩]
            exact Weak.of2 (by (repeat (first | exact .nil _ | refine .cons rfl (by first | exact AV.Imp.refl _ | exact Sl.imp | exact AV.Imp.agg RowOf.imp | exact AV.Imp.grow_sl | exact AV.Imp.nil_grow | exact AV.Imp.full_grow | exact AV.Imp.own_grow | exact AV.Imp.grow_of rfl | exact AV.Imp.sl_of rfl | exact AV.Imp.int_of (by omega) | exact AV.Imp.of_eq (by first | omega | simpa)) ?_)); done) (by (repeat (first | exact .refl _ | exact .nil _ | apply ItLe2.cons (by first | exact .here | exact k1 | exact k2 | exact k3 | exact k4 | exact k5 | exact k6 | exact k7 | exact k8 | exact k9 | exact k10 | exact k11 | exact k12 | exact k13) | apply ItLe2.cells (by first | exact .here | exact k1 | exact k2 | exact k3 | exact k4 | exact k5 | exact k6 | exact k7 | exact k8 | exact k9 | exact k10 | exact k11 | exact k12 | exact k13) (by repeat (first | exact .nil | refine .cons (by first | exact AV.Imp.refl _ | exact Sl.imp | exact AV.Imp.agg RowOf.imp | exact AV.Imp.grow_sl | exact AV.Imp.nil_grow | exact AV.Imp.full_grow | exact AV.Imp.own_grow | exact AV.Imp.grow_of rfl | exact AV.Imp.sl_of rfl | exact AV.Imp.int_of (by omega) | exact AV.Imp.of_eq (by first | omega | simpa)) ?_)) | apply ItLe2.tail0)); done)
        · skip
          try simp only [decide_eq_true_eq, decide_eq_false_iff_not, Bool.not_eq_true', Bool.not_eq_false', Bool.not_eq_true, Bool.not_eq_false, List.length_map, Int.ofNat_lt, Int.ofNat_le, Bool.or_eq_true, Bool.and_eq_true, Bool.or_eq_false_iff, Bool.and_eq_false_iff] at h4
          have hdn : d1 l[k].v = (r : Int) → 0 ≤ d1 l[k].u := fun e => by omega
          refine awp_skip ?_
          refine awp_region ?_
          refine st_p (fun _ => by exact y_move (.plain rfl)) rfl ?_
          refine st_p (fun _ => by exact y_add (.plain rfl) (.plain rfl) (by first | omega | (simp; omega) | (simp at hc; omega) | (simp at hc ⊢; omega) | (simp; done))) rfl ?_
          refine st_p (fun _ => by exact y_assign (.plain rfl)) rfl ?_
          refine aops_nil ?_
          refine ⟨(k + 1, d1), ⟨by show k + 1 ≤ _; omega, hri1, fun i hi hik hv => ?_⟩, by show l.length - (k + 1) < l.length - k; omega, ?_⟩
          · by_cases e : i = k
            · subst e; exact hdn hv
            · exact hall i hi (by have : i < k + 1 := hik; omega) hv
          · dsimp only
            exact Weak.of2 (by (repeat (first | exact .nil _ | refine .cons rfl (by first | exact AV.Imp.refl _ | exact Sl.imp | exact AV.Imp.agg RowOf.imp | exact AV.Imp.grow_sl | exact AV.Imp.nil_grow | exact AV.Imp.full_grow | exact AV.Imp.own_grow | exact AV.Imp.grow_of rfl | exact AV.Imp.sl_of rfl | exact AV.Imp.int_of (by omega) | exact AV.Imp.of_eq (by first | omega | simpa)) ?_)); done) (by (repeat (first | exact .refl _ | exact .nil _ | apply ItLe2.cons (by first | exact .here | exact k1 | exact k2 | exact k3 | exact k4 | exact k5 | exact k6 | exact k7 | exact k8 | exact k9 | exact k10 | exact k11 | exact k12 | exact k13) | apply ItLe2.cells (by first | exact .here | exact k1 | exact k2 | exact k3 | exact k4 | exact k5 | exact k6 | exact k7 | exact k8 | exact k9 | exact k10 | exact k11 | exact k12 | exact k13) (by repeat (first | exact .nil | refine .cons (by first | exact AV.Imp.refl _ | exact Sl.imp | exact AV.Imp.agg RowOf.imp | exact AV.Imp.grow_sl | exact AV.Imp.nil_grow | exact AV.Imp.full_grow | exact AV.Imp.own_grow | exact AV.Imp.grow_of rfl | exact AV.Imp.sl_of rfl | exact AV.Imp.int_of (by omega) | exact AV.Imp.of_eq (by first | omega | simpa)) ?_)) | apply ItLe2.tail0)); done)
      · skip
        try simp only [decide_eq_true_eq, decide_eq_false_iff_not, Bool.not_eq_true', Bool.not_eq_false', Bool.not_eq_true, Bool.not_eq_false, List.length_map, Int.ofNat_lt, Int.ofNat_le, Bool.or_eq_true, Bool.and_eq_true, Bool.or_eq_false_iff, Bool.and_eq_false_iff] at h3
        obtain rfl : k = l.length := by omega
        refine awp_exit ?_
        refine awp_region ?_
        refine st_p (fun _ => by exact y_move (.plain rfl)) rfl ?_
        refine st_p (fun _ => by exact y_add (.plain rfl) (.plain rfl) (by first | omega | (simp; omega) | (simp at hc; omega) | (simp at hc ⊢; omega) | (simp; done))) rfl ?_
        refine st_p (fun _ => by exact y_assign (.plain rfl)) rfl ?_
        refine aops_nil ?_
        refine ⟨(r + 1, d1), ⟨by show r + 1 ≤ _; omega, ?_⟩, by show n.toNat - (r + 1) < n.toNat - r; omega, ?_⟩
        · have := hri1.next (fun e he hv => by
            obtain ⟨i, hi, rfl⟩ := List.getElem_of_mem he
            exact hall i hi hi hv)
          show Dg.RI n l t ((r + 1 : Nat) : Int) ((r + 1 : Nat) : Int) d1
          push_cast; exact this
        · dsimp only
          exact Weak.of2 (by (repeat (first | exact .nil _ | refine .cons rfl (by first | exact AV.Imp.refl _ | exact Sl.imp | exact AV.Imp.agg RowOf.imp | exact AV.Imp.grow_sl | exact AV.Imp.nil_grow | exact AV.Imp.full_grow | exact AV.Imp.own_grow | exact AV.Imp.grow_of rfl | exact AV.Imp.sl_of rfl | exact AV.Imp.int_of (by omega) | exact AV.Imp.of_eq (by first | omega | simpa)) ?_)); done) (by (repeat (first | exact .refl _ | exact .nil _ | apply ItLe2.cons (by first | exact .here | exact k1 | exact k2 | exact k3 | exact k4 | exact k5 | exact k6 | exact k7 | exact k8 | exact k9 | exact k10 | exact k11 | exact k12 | exact k13) | apply ItLe2.cells (by first | exact .here | exact k1 | exact k2 | exact k3 | exact k4 | exact k5 | exact k6 | exact k7 | exact k8 | exact k9 | exact k10 | exact k11 | exact k12 | exact k13) (by repeat (first | exact .nil | refine .cons (by first | exact AV.Imp.refl _ | exact Sl.imp | exact AV.Imp.agg RowOf.imp | exact AV.Imp.grow_sl | exact AV.Imp.nil_grow | exact AV.Imp.full_grow | exact AV.Imp.own_grow | exact AV.Imp.grow_of rfl | exact AV.Imp.sl_of rfl | exact AV.Imp.int_of (by omega) | exact AV.Imp.of_eq (by first | omega | simpa)) ?_)) | apply ItLe2.tail0)); done)
    · skip
      try simp only [decide_eq_true_eq, decide_eq_false_iff_not, Bool.not_eq_true', Bool.not_eq_false', Bool.not_eq_true, Bool.not_eq_false, List.length_map, Int.ofNat_lt, Int.ofNat_le, Bool.or_eq_true, Bool.and_eq_true, Bool.or_eq_false_iff, Bool.and_eq_false_iff] at h2
      refine awp_exit ?_
      refine awp_seq ?_
      obtain rfl : r = n.toNat := by omega
      have hds : d = Dg.dist (Dg.gr n l) t := Dg.DS.eq (n := n) (l := l) (t := t) (by rw [Int.toNat_of_nonneg hnb.1] at hri; exact hri.ds) (Dg.dist_ds hok ht)
      subst hds
      refine awp_weak (Weak.items2 (st' := .cells nj (((Dg.distL (Dg.gr n l) t).map encI).flatten ++ []) :: []) (.cells .here ?_ (.nil _))) ?_
      · rw [List.append_nil]; exact ImpL.of_eq (ea_row (fun b => AV.int b) n.toNat (Dg.dist (Dg.gr n l) t)).symm
      refine awp_region ?_
      refine st_p (fun _ => by exact y_move (.plain rfl)) rfl ?_
      refine st_p (fun _ => by exact y_assign (.plain rfl)) rfl ?_
      refine aops_nil ?_
      refine awp_ret ?_
      exact retG (.inr rfl) (.cons (.tmp rfl) .nil) (VShift.freezeR (xs := (Dg.distL (Dg.gr n l) t).map encI) (by rw [List.length_map, Dg.distL, bl_len]; rfl) (by simp [encI]) (.cons .here (.nil _))) ⟨rfl, rfl⟩

end Go.Proofs
