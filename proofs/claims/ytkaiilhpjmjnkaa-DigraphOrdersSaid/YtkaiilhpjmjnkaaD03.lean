/- The successors. -/
import Derived.Test.YtkaiilhpjmjnkaaB03
set_option linter.unusedVariables false
set_option linter.unusedSimpArgs false
set_option maxRecDepth 10000
namespace Go.Proofs
open Go.Aw Wl Dg
theorem succ0_c (g : Dg.Gr) (u : Int) : ACalls Try.prog 45 [.agg (encG g), .int u] [] (fun v st => ∃ i j, v = .clo 53 [.ptr i 0, .ptr j 0] ∧ st = [.cells j [.int u], .cells i (encG g)]) := by
  refine acalls_body Try.func45 (by kernel_rfl) rfl Try.ntmps45 (le_ rfl) ?_
  rw [Try.results45]
  refine awp_seq ?_
  refine awp_region ?_
  refine st_n (fun _ => by exact y_box (.plain rfl)) rfl fun n1 => ?_
  refine st_n (fun _ => by exact y_box (.plain rfl)) rfl fun n2 => ?_
  refine st_p (fun _ => by exact y_assign (.plain rfl)) rfl ?_
  refine aops_nil ?_
  refine awp_seq ?_
  refine awp_region ?_
  refine st_p (fun _ => by exact y_makeFunc (.cons (.plain rfl) (.cons (.plain rfl) .nil))) rfl ?_
  refine st_p (fun _ => by exact y_assign (.plain rfl)) rfl ?_
  refine aops_nil ?_
  refine awp_ret ?_
  exact retG (.inr rfl) (.cons (.tmp rfl) .nil) VShift.refl ⟨n1, n2, rfl, rfl⟩

theorem succ_c (g : Dg.Gr) (hg : Dg.OkG g) (u : Int) (hu : 0 ≤ u ∧ u < g.n) (i j : Nat) (yv : AV) (SP : Nat → List Aw.Item → Prop) (SE : List Aw.Item → Prop) (st0 : List Aw.Item) (h0 : SP 0 st0) (h : ∀ k (hk : k < (Dg.suc g u).length) st, SP k st → AYields Try.prog yv [.int (Dg.suc g u)[k]] st (fun v st' => ∃ b, v = .bool b ∧ (b = true → SP (k + 1) st') ∧ (b = false → SE st'))) : ACalls Try.prog 53 [yv, .ptr i 0, .ptr j 0] (.cells j [.int u] :: .cells i (encG g) :: st0) (fun v st => ∃ stx, st = .cells j [.int u] :: .cells i (encG g) :: stx ∧ (SP (Dg.suc g u).length stx ∨ SE stx)) := by
  refine acallsX_body Try.func53 (by kernel_rfl) rfl Try.ntmps53 (le_ rfl) ?_
  rw [Try.results53]
  have hgn := hg.nb
  have hgl := hg.len
  have hrow := (hg.row u).1
  refine awx_seq ?_
  refine awx_region rfl ?_
  refine st_p (fun _ => by exact y_fieldPtr (.plain rfl)) rfl ?_
  refine st_p (fun _ => by exact y_load (.plain rfl) (by first | exact .here | exact k1 | exact k2 | exact k3 | exact k4 | exact k5 | exact k6 | exact k7 | exact k8 | exact k9 | exact k10 | exact k11 | exact k12 | exact k13) rfl) rfl ?_
  refine st_p (fun _ => by exact y_load (.plain rfl) (by first | exact .here | exact k1 | exact k2 | exact k3 | exact k4 | exact k5 | exact k6 | exact k7 | exact k8 | exact k9 | exact k10 | exact k11 | exact k12 | exact k13) rfl) rfl ?_
  refine st_p (v := .eptr (encLI (Dg.suc g u))) (fun _ => by exact y_indexT (l := g.nx) (.plain rfl) (.plain rfl) hu.1 (by omega)) rfl ?_
  refine st_p (fun _ => by exact y_loadE (.plain rfl) rfl) rfl ?_
  first | refine st_p (fun _ => by exact y_lenN (.plain rfl)) rfl ?_ | refine st_p (fun _ => by exact y_len (.plain rfl)) rfl ?_ | refine st_p (fun _ => by exact y_lenArr (.plain rfl)) rfl ?_
  refine st_p (fun _ => by exact y_move (.plain rfl)) rfl ?_
  refine aops_nil ?_
  refine awx_block ?_
  refine awx_loop2 (X := Nat × List Aw.Item) (rest := []) [0, 10, 11] (.cons rfl (.cons rfl (.cons rfl .nil))) (fun σ x => ((12, .int (x.1 : Int)) : Nat × AV) :: σ) (fun R x => .cells j [.int u] :: .cells i (encG g) :: x.2) (fun x => x.1 ≤ (Dg.suc g u).length ∧ SP x.1 x.2) (fun x => (Dg.suc g u).length - x.1) (0, st0) (by exact Weak.of2 (by (repeat (first | exact .nil _ | refine .cons rfl (by first | exact AV.Imp.refl _ | exact Sl.imp | exact AV.Imp.agg RowOf.imp | exact AV.Imp.grow_sl | exact AV.Imp.nil_grow | exact AV.Imp.full_grow | exact AV.Imp.own_grow | exact AV.Imp.grow_of rfl | exact AV.Imp.sl_of rfl | exact AV.Imp.int_of (by omega) | exact AV.Imp.of_eq (by first | omega | simpa)) ?_)); done) (by (repeat (first | exact .refl _ | exact .nil _ | apply ItLe2.cons (by first | exact .here | exact k1 | exact k2 | exact k3 | exact k4 | exact k5 | exact k6 | exact k7 | exact k8 | exact k9 | exact k10 | exact k11 | exact k12 | exact k13) | apply ItLe2.cells (by first | exact .here | exact k1 | exact k2 | exact k3 | exact k4 | exact k5 | exact k6 | exact k7 | exact k8 | exact k9 | exact k10 | exact k11 | exact k12 | exact k13) (by repeat (first | exact .nil | refine .cons (by first | exact AV.Imp.refl _ | exact Sl.imp | exact AV.Imp.agg RowOf.imp | exact AV.Imp.grow_sl | exact AV.Imp.nil_grow | exact AV.Imp.full_grow | exact AV.Imp.own_grow | exact AV.Imp.grow_of rfl | exact AV.Imp.sl_of rfl | exact AV.Imp.int_of (by omega) | exact AV.Imp.of_eq (by first | omega | simpa)) ?_)) | apply ItLe2.tail0)); done)) ⟨Nat.zero_le _, h0⟩ ?_
  rintro ⟨k, st⟩ ⟨hk, hsp⟩
  simp only at hk hsp
  dsimp only
  refine awx_seq ?_
  refine awx_region rfl ?_
  refine st_p (fun _ => by exact y_lss (.plain rfl) (.plain rfl)) rfl ?_
  refine aops_nil ?_
  refine awx_seq ?_
  refine awx_cond rfl (fun h1 => ?_) (fun h1 => ?_)
  · skip
    try simp only [decide_eq_true_eq, decide_eq_false_iff_not, Bool.not_eq_true', Bool.not_eq_false', Bool.not_eq_true, Bool.not_eq_false, List.length_map, Int.ofNat_lt, Int.ofNat_le, Bool.or_eq_true, Bool.and_eq_true, Bool.or_eq_false_iff, Bool.and_eq_false_iff] at h1
    refine awx_skip ?_
    refine awx_seq ?_
    refine awx_block ?_
    refine awx_seq ?_
    refine awx_region rfl ?_
    first | refine st_p (fun _ => by exact y_indexMap (.plain rfl) (.plain rfl) rfl (by refine ⟨?_, ?_⟩; (first | omega | (simp; omega) | (simp at hc; omega) | (simp at hc ⊢; omega) | (simp; done)); rfl)) rfl ?_ | refine st_p (fun _ => by exact y_indexT (.plain rfl) (.plain rfl) (by first | omega | (simp; omega) | (simp at hc; omega) | (simp at hc ⊢; omega) | (simp; done)) (by first | omega | (simp; omega) | (simp at hc; omega) | (simp at hc ⊢; omega) | (simp; done))) rfl ?_ | refine st_p (fun _ => by exact y_index (.plain rfl) (.plain rfl) (by omega) rfl) rfl ?_ | refine st_p (fun _ => by exact y_indexArr (.plain rfl) (.plain rfl) rfl (by first | omega | (simp; omega) | (simp at hc; omega) | (simp at hc ⊢; omega) | (simp; done))) rfl ?_
    refine st_p (fun _ => by exact y_loadE (.plain rfl) rfl) rfl ?_
    refine st_p (fun _ => by exact y_assign (.plain rfl)) rfl ?_
    refine aops_nil ?_
    refine awx_seq ?_
    refine awx_regionYk 2 rfl rfl rfl ?_
    dsimp only [List.take, List.drop]
    refine st_p (fun _ => by exact y_move (.plain rfl)) rfl ?_
    refine st_p (fun _ => by exact y_move (.plain rfl)) rfl ?_
    refine aops_nil ?_
    refine ⟨_, _, rfl, .cons (.plain rfl) .nil, AYields.frame (st1 := st) (st2 := [Aw.Item.cells j _, Aw.Item.cells i _]) (h k h1 st hsp) (List.perm_append_comm (l₁ := [Aw.Item.cells j _, Aw.Item.cells i _])) ?_⟩
    rintro v st' ⟨b, rfl, hb1, hb2⟩
    refine aops_weak (Weak.perm (st' := Aw.Item.cells j _ :: Aw.Item.cells i _ :: st') (List.perm_append_comm (l₂ := [Aw.Item.cells j _, Aw.Item.cells i _]))) ?_
    refine st_p (fun _ => by exact y_not (.plain rfl)) rfl ?_
    refine aops_nil ?_
    refine awx_cond rfl (fun h2 => ?_) (fun h2 => ?_)
    · skip
      try simp only [decide_eq_true_eq, decide_eq_false_iff_not, Bool.not_eq_true', Bool.not_eq_false', Bool.not_eq_true, Bool.not_eq_false, List.length_map, Int.ofNat_lt, Int.ofNat_le, Bool.or_eq_true, Bool.and_eq_true, Bool.or_eq_false_iff, Bool.and_eq_false_iff] at h2
      refine awx_ret ?_
      exact retX (.inr rfl) (List.Perm.refl _) .nil VShift.refl ⟨_, rfl, .inr (hb2 h2)⟩
    · skip
      try simp only [decide_eq_true_eq, decide_eq_false_iff_not, Bool.not_eq_true', Bool.not_eq_false', Bool.not_eq_true, Bool.not_eq_false, List.length_map, Int.ofNat_lt, Int.ofNat_le, Bool.or_eq_true, Bool.and_eq_true, Bool.or_eq_false_iff, Bool.and_eq_false_iff] at h2
      refine awx_skip ?_
      refine awx_region rfl ?_
      refine st_p (fun _ => by exact y_add (.plain rfl) (.plain rfl) (by first | omega | (simp; omega) | (simp at hc; omega) | (simp at hc ⊢; omega) | (simp; done))) rfl ?_
      refine st_p (fun _ => by exact y_move (.plain rfl)) rfl ?_
      refine aops_nil ?_
      refine ⟨rfl, ?_⟩
      exact ⟨(k + 1, st'), ⟨by show k + 1 ≤ _; omega, hb1 h2⟩, by show (Dg.suc g u).length - (k + 1) < (Dg.suc g u).length - k; omega, Weak.of2 (by (repeat (first | exact .nil _ | refine .cons rfl (by first | exact AV.Imp.refl _ | exact Sl.imp | exact AV.Imp.agg RowOf.imp | exact AV.Imp.grow_sl | exact AV.Imp.nil_grow | exact AV.Imp.full_grow | exact AV.Imp.own_grow | exact AV.Imp.grow_of rfl | exact AV.Imp.sl_of rfl | exact AV.Imp.int_of (by omega) | exact AV.Imp.of_eq (by first | omega | simpa)) ?_)); done) (.refl _)⟩
  · skip
    try simp only [decide_eq_true_eq, decide_eq_false_iff_not, Bool.not_eq_true', Bool.not_eq_false', Bool.not_eq_true, Bool.not_eq_false, List.length_map, Int.ofNat_lt, Int.ofNat_le, Bool.or_eq_true, Bool.and_eq_true, Bool.or_eq_false_iff, Bool.and_eq_false_iff] at h1
    refine awx_exit ?_
    obtain rfl : k = (Dg.suc g u).length := by omega
    exact retX (.inl rfl) (List.Perm.refl _) .nil VShift.refl ⟨_, rfl, .inl hsp⟩

end Go.Proofs
