/- The supervisor at work. -/
import Derived.Test.YtjjgchblmejooaaD57
set_option linter.unusedVariables false
set_option linter.unusedSimpArgs false
set_option maxRecDepth 10000
namespace Go.Proofs
open Go.Aw Wl Sv
theorem back_c (l : List Int) : ACalls Try.prog 48 [.sl 1 (l.map encI)] [] (fun v st => ∃ i, v = .clo 51 [.ptr i 0] ∧ st = [.cells i [.sl 1 (l.map encI)]]) := by
  refine acalls_body Try.func48 (by kernel_rfl) rfl Try.ntmps48 (le_ rfl) ?_
  rw [Try.results48]
  refine awp_seq ?_
  refine awp_region ?_
  refine st_n (fun _ => by exact y_box (.plain rfl)) rfl fun n1 => ?_
  refine st_p (fun _ => by exact y_assign (.plain rfl)) rfl ?_
  refine aops_nil ?_
  refine awp_seq ?_
  refine awp_region ?_
  refine st_p (fun _ => by exact y_makeFunc (.cons (.plain rfl) .nil)) rfl ?_
  refine st_p (fun _ => by exact y_assign (.plain rfl)) rfl ?_
  refine aops_nil ?_
  refine awp_ret ?_
  exact retG (.inr rfl) (.cons (.tmp rfl) .nil) VShift.refl ⟨n1, rfl, rfl⟩

theorem backK_c (l : List Int) (hl : l.length ≤ 1000000) (i : Nat) (yv : AV) (SP : Nat → List Aw.Item → Prop) (st0 : List Aw.Item) (h0 : SP 0 st0) (h : ∀ k (hk : k < l.length) st, SP k st → AYields Try.prog yv [.int ((l.length : Int) - 1 - (k : Int)), .int (l.getD ((l.length : Int) - 1 - (k : Int)).toNat default)] st (fun v st' => v = .bool true ∧ SP (k + 1) st')) : ACalls Try.prog 51 [yv, .ptr i 0] (.cells i [.sl 1 (l.map encI)] :: st0) (fun v st => ∃ stx, st = .cells i [.sl 1 (l.map encI)] :: stx ∧ SP l.length stx) := by
  refine acallsX_body Try.func51 (by kernel_rfl) rfl Try.ntmps51 (le_ rfl) ?_
  rw [Try.results51]
  refine awx_seq ?_
  refine awx_region rfl ?_
  refine st_p (fun _ => by exact y_load (.plain rfl) (by first | exact .here | exact k1 | exact k2 | exact k3 | exact k4 | exact k5 | exact k6 | exact k7 | exact k8 | exact k9 | exact k10 | exact k11 | exact k12 | exact k13) rfl) rfl ?_
  first | refine st_p (fun _ => by exact y_lenN (.plain rfl)) rfl ?_ | refine st_p (fun _ => by exact y_len (.plain rfl)) rfl ?_ | refine st_p (fun _ => by exact y_lenArr (.plain rfl)) rfl ?_ | refine st_p (fun _ => by exact y_vlen (.plain rfl)) rfl ?_ | refine st_p (fun _ => by exact y_strLen (by rfl) (.plain rfl)) rfl ?_
  refine st_p (fun _ => by exact y_sub (.plain rfl) (.plain rfl) (by first | omega | (simp; omega) | (simp at hc; omega) | (simp at hc ⊢; omega) | (simp; done))) rfl ?_
  refine st_p (fun _ => by exact y_assign (.plain rfl)) rfl ?_
  refine aops_nil ?_
  refine awx_block ?_
  refine awx_loop2 (X := Nat × List Aw.Item) (rest := []) [0, 1] (.cons rfl (.cons rfl .nil)) (fun σ x => ((3, .int ((l.length : Int) - 1 - (x.1 : Int))) : Nat × AV) :: σ) (fun R x => .cells i [.sl 1 (l.map encI)] :: x.2) (fun x => x.1 ≤ l.length ∧ SP x.1 x.2) (fun x => l.length - x.1) (0, st0) (by exact Weak.of2 (by (repeat (first | exact .nil _ | refine .cons rfl (by first | exact AV.Imp.refl _ | exact AV.Imp.int_of (by simp) | exact Sl.imp | exact AV.Imp.agg RowOf.imp | exact AV.Imp.grow_sl | exact AV.Imp.nil_grow | exact AV.Imp.full_grow | exact AV.Imp.own_grow | exact AV.Imp.grow_of rfl | exact AV.Imp.sl_of rfl | exact AV.Imp.int_of (by omega) | exact AV.Imp.of_eq (by first | omega | simpa)) ?_)); done) (.refl _)) ⟨Nat.zero_le _, h0⟩ ?_
  rintro ⟨k, st⟩ ⟨hk, hsp⟩
  simp only at hk hsp
  dsimp only
  refine awx_seq ?_
  refine awx_seq ?_
  refine awx_region rfl ?_
  refine st_p (fun _ => by exact y_move (.plain rfl)) rfl ?_
  refine st_p (fun _ => by exact y_geq (.plain rfl) (.plain rfl)) rfl ?_
  refine aops_nil ?_
  refine awx_cond rfl (fun h1 => ?_) (fun h1 => ?_)
  · skip
    try simp only [decide_eq_true_eq, decide_eq_false_iff_not, Bool.not_eq_true', Bool.not_eq_false', Bool.not_eq_true, Bool.not_eq_false, List.length_map, Int.ofNat_lt, Int.ofNat_le, Bool.or_eq_true, Bool.and_eq_true, Bool.or_eq_false_iff, Bool.and_eq_false_iff] at h1
    refine awx_skip ?_
    refine awx_seq ?_
    refine awx_block ?_
    refine awx_seq ?_
    refine awx_regionYk 6 rfl rfl rfl ?_
    dsimp only [List.take, List.drop]
    refine st_p (fun _ => by exact y_move (.plain rfl)) rfl ?_
    refine st_p (fun _ => by exact y_move (.plain rfl)) rfl ?_
    refine st_p (fun _ => by exact y_load (.plain rfl) (by first | exact .here | exact k1 | exact k2 | exact k3 | exact k4 | exact k5 | exact k6 | exact k7 | exact k8 | exact k9 | exact k10 | exact k11 | exact k12 | exact k13) rfl) rfl ?_
    refine st_p (fun _ => by exact y_move (.plain rfl)) rfl ?_
    refine st_p (v := .eptr (encI (l.getD ((l.length : Int) - 1 - (k : Int)).toNat default))) (fun _ => by exact y_indexT (l := l) (.plain rfl) (.plain rfl) (by omega) (by omega)) rfl ?_
    refine st_p (fun _ => by exact y_loadE (.plain rfl) rfl) rfl ?_
    refine aops_nil ?_
    refine ⟨_, _, rfl, .cons (.plain rfl) (.cons (.plain rfl) .nil), AYields.frame (st1 := st) (st2 := [Aw.Item.cells i _]) (h k (by omega) st hsp) (List.perm_append_comm (l₁ := [Aw.Item.cells i _])) ?_⟩
    rintro v st' ⟨rfl, hsp'⟩
    refine aops_weak (Weak.perm (st' := Aw.Item.cells i _ :: st') (List.perm_append_comm (l₂ := [Aw.Item.cells i _]))) ?_
    refine st_p (fun _ => by exact y_not (.plain rfl)) rfl ?_
    refine aops_nil ?_
    refine awx_cond rfl (fun h2 => ?_) (fun h2 => ?_)
    · skip
      cases h2
    · skip
      try simp only [decide_eq_true_eq, decide_eq_false_iff_not, Bool.not_eq_true', Bool.not_eq_false', Bool.not_eq_true, Bool.not_eq_false, List.length_map, Int.ofNat_lt, Int.ofNat_le, Bool.or_eq_true, Bool.and_eq_true, Bool.or_eq_false_iff, Bool.and_eq_false_iff] at h2
      refine awx_skip ?_
      refine awx_region rfl ?_
      refine st_p (fun _ => by exact y_move (.plain rfl)) rfl ?_
      refine st_p (fun _ => by exact y_sub (.plain rfl) (.plain rfl) (by first | omega | (simp; omega) | (simp at hc; omega) | (simp at hc ⊢; omega) | (simp; done))) rfl ?_
      refine st_p (fun _ => by exact y_assign (.plain rfl)) rfl ?_
      refine aops_nil ?_
      refine ⟨rfl, ?_⟩
      exact ⟨(k + 1, st'), ⟨by show k + 1 ≤ _; omega, hsp'⟩, by show l.length - (k + 1) < l.length - k; omega, Weak.of2 (by (repeat (first | exact .nil _ | refine .cons rfl (by first | exact AV.Imp.refl _ | exact AV.Imp.int_of (by push_cast; omega) | exact Sl.imp | exact AV.Imp.agg RowOf.imp | exact AV.Imp.grow_sl | exact AV.Imp.nil_grow | exact AV.Imp.full_grow | exact AV.Imp.own_grow | exact AV.Imp.grow_of rfl | exact AV.Imp.sl_of rfl | exact AV.Imp.int_of (by omega) | exact AV.Imp.of_eq (by first | omega | simpa)) ?_)); done) (.refl _)⟩
  · skip
    try simp only [decide_eq_true_eq, decide_eq_false_iff_not, Bool.not_eq_true', Bool.not_eq_false', Bool.not_eq_true, Bool.not_eq_false, List.length_map, Int.ofNat_lt, Int.ofNat_le, Bool.or_eq_true, Bool.and_eq_true, Bool.or_eq_false_iff, Bool.and_eq_false_iff] at h1
    refine awx_exit ?_
    obtain rfl : k = l.length := by omega
    exact retX (.inl rfl) (List.Perm.refl _) .nil VShift.refl ⟨_, rfl, hsp⟩

theorem setR_c (r j : Nat) (q : Sv.Spc) (t : Int) (pad : List AV) (rn : Sv.Rn) (tok : Option Nat) (c v : Int) (hc : 0 ≤ c ∧ c < rn.1.children.length) : ACalls Try.prog 37 [.ptr r 0, .int c, .int v] [.cells r [.int rn.1.status, .arr j 0 rn.1.children.length, .sl 1 (rn.1.restarts.map encI), .bool rn.1.failed, .int q.strategy, .int q.intensity, .int q.window, .sl 3 (q.children.map encCh), .int t, .grow 4 tok (rn.2.map encEv)], .cells j ((rn.1.children.map encCs).flatten ++ pad), .tail tok] (fun y st => st = [.cells r [.int (Sv.set rn c v).1.status, .arr j 0 (Sv.set rn c v).1.children.length, .sl 1 ((Sv.set rn c v).1.restarts.map encI), .bool (Sv.set rn c v).1.failed, .int q.strategy, .int q.intensity, .int q.window, .sl 3 (q.children.map encCh), .int t, .grow 4 tok ((Sv.set rn c v).2.map encEv)], .cells j (((Sv.set rn c v).1.children.map encCs).flatten ++ pad), .tail tok]) := by
  refine (set_c r j rn.1.children pad [] c v hc _ _ _ _ _ _ _ _ _).frame (st2 := [.tail tok]) (List.Perm.refl _) fun y st' e => ?_
  subst e
  rw [Sv.set_len]
  rfl
theorem actR_c (r j : Nat) (q : Sv.Spc) (t : Int) (pad : List AV) (rn : Sv.Rn) (tok : Option Nat) (ho : rn.2.length ≤ 1000000) (k c : Int) : ACalls Try.prog 49 [.ptr r 0, .int k, .int c] [.cells r [.int rn.1.status, .arr j 0 rn.1.children.length, .sl 1 (rn.1.restarts.map encI), .bool rn.1.failed, .int q.strategy, .int q.intensity, .int q.window, .sl 3 (q.children.map encCh), .int t, .grow 4 tok (rn.2.map encEv)], .cells j ((rn.1.children.map encCs).flatten ++ pad), .tail tok] (fun y st => ∃ tk, st = [.cells r [.int (Sv.act t rn k c).1.status, .arr j 0 (Sv.act t rn k c).1.children.length, .sl 1 ((Sv.act t rn k c).1.restarts.map encI), .bool (Sv.act t rn k c).1.failed, .int q.strategy, .int q.intensity, .int q.window, .sl 3 (q.children.map encCh), .int t, .grow 4 tk ((Sv.act t rn k c).2.map encEv)], .cells j (((Sv.act t rn k c).1.children.map encCs).flatten ++ pad), .tail tk]) := by
  have h := (act_c r tok rn.2 ho k c t (.int rn.1.status) (.arr j 0 rn.1.children.length) (.sl 1 (rn.1.restarts.map encI)) (.bool rn.1.failed) (.int q.strategy) (.int q.intensity) (.int q.window) (.sl 3 (q.children.map encCh))).frame (Q' := fun y st => ∃ tk, st = [.cells r [.int (Sv.act t rn k c).1.status, .arr j 0 (Sv.act t rn k c).1.children.length, .sl 1 ((Sv.act t rn k c).1.restarts.map encI), .bool (Sv.act t rn k c).1.failed, .int q.strategy, .int q.intensity, .int q.window, .sl 3 (q.children.map encCh), .int t, .grow 4 tk ((Sv.act t rn k c).2.map encEv)], .tail tk, .cells j (((Sv.act t rn k c).1.children.map encCs).flatten ++ pad)]) (st2 := [.cells j ((rn.1.children.map encCs).flatten ++ pad)]) (List.Perm.cons _ (List.Perm.swap _ _ _)) fun y st' ⟨tk, e⟩ => ⟨tk, by rw [e]; rfl⟩
  refine h.shift fun y st' ⟨tk, e⟩ => ⟨y, [.cells r [.int (Sv.act t rn k c).1.status, .arr j 0 (Sv.act t rn k c).1.children.length, .sl 1 ((Sv.act t rn k c).1.restarts.map encI), .bool (Sv.act t rn k c).1.failed, .int q.strategy, .int q.intensity, .int q.window, .sl 3 (q.children.map encCh), .int t, .grow 4 tk ((Sv.act t rn k c).2.map encEv)], .cells j (((Sv.act t rn k c).1.children.map encCs).flatten ++ pad), .tail tk], ?_, tk, rfl⟩
  rw [e]
  exact VShift.of2 (AV.Imp.refl _) (by (repeat (first | exact .refl _ | exact .nil _ | apply ItLe2.cons (by first | exact .here | exact k1 | exact k2 | exact k3 | exact k4 | exact k5 | exact k6 | exact k7 | exact k8 | exact k9 | exact k10 | exact k11 | exact k12 | exact k13) | apply ItLe2.cells (by first | exact .here | exact k1 | exact k2 | exact k3 | exact k4 | exact k5 | exact k6 | exact k7 | exact k8 | exact k9 | exact k10 | exact k11 | exact k12 | exact k13) (by repeat (first | exact .nil | refine .cons (by first | exact AV.Imp.refl _ | exact Sl.imp | exact AV.Imp.agg RowOf.imp | exact AV.Imp.grow_sl | exact AV.Imp.nil_grow | exact AV.Imp.full_grow | exact AV.Imp.own_grow | exact AV.Imp.grow_of rfl | exact AV.Imp.sl_of rfl | exact AV.Imp.int_of (by omega) | exact AV.Imp.of_eq (by first | omega | simpa)) ?_)) | apply ItLe2.tail0)); done)

theorem stop_c (r j : Nat) (q : Sv.Spc) (t : Int) (pad : List AV) (rn : Sv.Rn) (tok : Option Nat) (l : List Int) (hl : l.length ≤ 1000) (hb : ∀ i ∈ l, 0 ≤ i ∧ i < rn.1.children.length) (ho : rn.2.length ≤ 100000) : ACalls Try.prog 39 [.ptr r 0, .sl 1 (l.map encI)] [.cells r [.int rn.1.status, .arr j 0 rn.1.children.length, .sl 1 (rn.1.restarts.map encI), .bool rn.1.failed, .int q.strategy, .int q.intensity, .int q.window, .sl 3 (q.children.map encCh), .int t, .grow 4 tok (rn.2.map encEv)], .cells j ((rn.1.children.map encCs).flatten ++ pad), .tail tok] (fun v st => ∃ tk, st = [.cells r [.int (Sv.stop t rn l).1.status, .arr j 0 (Sv.stop t rn l).1.children.length, .sl 1 ((Sv.stop t rn l).1.restarts.map encI), .bool (Sv.stop t rn l).1.failed, .int q.strategy, .int q.intensity, .int q.window, .sl 3 (q.children.map encCh), .int t, .grow 4 tk ((Sv.stop t rn l).2.map encEv)], .cells j (((Sv.stop t rn l).1.children.map encCs).flatten ++ pad), .tail tk]) := by
  refine acallsX_body Try.func39 (by kernel_rfl) rfl Try.ntmps39 (le_ rfl) ?_
  rw [Try.results39]
  refine awx_seq ?_
  refine awx_region rfl ?_
  refine st_n (fun _ => by exact y_box (.plain rfl)) rfl fun n1 => ?_
  refine aops_nil ?_
  refine awx_seq ?_
  refine awx_region rfl ?_
  refine st_p (fun _ => by exact y_move (.plain rfl)) rfl ?_
  refine aops_call (blt_lt rfl) (.plain rfl) (.cons (.plain rfl) .nil) (ACalls.frame (st1 := []) (back_c l) (List.Perm.refl _) ?_)
  rintro v st ⟨bi, rfl, rfl⟩
  refine aops_nil ?_
  refine awx_block ?_
  refine awx_rangeFunc rfl fun iL iD T fn D RS hRS => ?_
  refine ACalls.frame (backK_c l (by omega) bi (.yld iL _ _ T) (fun k st => ∃ tk, st = Aw.Item.raw iL (RS .ready none) :: [.cells r [.int ((l.reverse.take k).foldl (Sv.stop1 t) rn).1.status, .arr j 0 ((l.reverse.take k).foldl (Sv.stop1 t) rn).1.children.length, .sl 1 (((l.reverse.take k).foldl (Sv.stop1 t) rn).1.restarts.map encI), .bool ((l.reverse.take k).foldl (Sv.stop1 t) rn).1.failed, .int q.strategy, .int q.intensity, .int q.window, .sl 3 (q.children.map encCh), .int t, .grow 4 tk (((l.reverse.take k).foldl (Sv.stop1 t) rn).2.map encEv)], .cells j ((((l.reverse.take k).foldl (Sv.stop1 t) rn).1.children.map encCs).flatten ++ pad), .tail tk, .cells n1 [.ptr r 0]]) _ ⟨tok, rfl⟩ ?_) (Takes.perm (by apply Takes.cons (by first | exact .here | exact k1 | exact k2 | exact k3 | exact k4 | exact k5 | exact k6 | exact k7 | exact k8 | exact k9 | exact k10 | exact k11 | exact k12 | exact k13); apply Takes.cons (by first | exact .here | exact k1 | exact k2 | exact k3 | exact k4 | exact k5 | exact k6 | exact k7 | exact k8 | exact k9 | exact k10 | exact k11 | exact k12 | exact k13); apply Takes.cons (by first | exact .here | exact k1 | exact k2 | exact k3 | exact k4 | exact k5 | exact k6 | exact k7 | exact k8 | exact k9 | exact k10 | exact k11 | exact k12 | exact k13); apply Takes.cons (by first | exact .here | exact k1 | exact k2 | exact k3 | exact k4 | exact k5 | exact k6 | exact k7 | exact k8 | exact k9 | exact k10 | exact k11 | exact k12 | exact k13); apply Takes.cons (by first | exact .here | exact k1 | exact k2 | exact k3 | exact k4 | exact k5 | exact k6 | exact k7 | exact k8 | exact k9 | exact k10 | exact k11 | exact k12 | exact k13); apply Takes.cons (by first | exact .here | exact k1 | exact k2 | exact k3 | exact k4 | exact k5 | exact k6 | exact k7 | exact k8 | exact k9 | exact k10 | exact k11 | exact k12 | exact k13); exact .nil _)) ?_
  · skip
    rintro k hk st ⟨tk, rfl⟩
    have hcl := Sv.fold_len _ (Sv.stop1_len t) (l.reverse.take k) rn
    have hco := Sv.fold_out _ (Sv.stop1_out t) (l.reverse.take k) rn
    rw [List.length_take] at hco
    have hbi := hb _ (Sv.rev_mem l k hk)
    refine AYields.round hRS (by decide) rfl (fun lb => ?_)
    refine awx_region rfl ?_
    refine st_p (fun _ => by exact y_assign (.plain rfl)) rfl ?_
    refine aops_nil ?_
    refine ⟨rfl, ?_⟩
    refine awx_block ?_
    refine awx_seq ?_
    refine awx_region rfl ?_
    refine st_p (fun _ => by exact y_load (.plain rfl) (by first | exact .here | exact k1 | exact k2 | exact k3 | exact k4 | exact k5 | exact k6 | exact k7 | exact k8 | exact k9 | exact k10 | exact k11 | exact k12 | exact k13) rfl) rfl ?_
    first | refine st_p (fun _ => by exact y_nilPtr (.plain rfl)) rfl ?_ | refine st_p (fun _ => by exact y_nilE (.plain rfl)) rfl ?_
    first | refine st_p (fun _ => by exact y_fieldPtr (.plain rfl)) rfl ?_ | refine st_p (fun _ => by exact y_fieldE (.plain rfl) (le_ rfl)) rfl ?_
    first | refine st_p (fun _ => by exact y_fieldPtr (.plain rfl)) rfl ?_ | refine st_p (fun _ => by exact y_fieldE (.plain rfl) (le_ rfl)) rfl ?_
    first | refine st_p (fun _ => by exact y_loadE (.plain rfl) rfl) rfl ?_ | refine st_p (fun _ => by exact y_load (.plain rfl) (by first | exact .here | exact k1 | exact k2 | exact k3 | exact k4 | exact k5 | exact k6 | exact k7 | exact k8 | exact k9 | exact k10 | exact k11 | exact k12 | exact k13) rfl) rfl ?_
    refine st_p (fun _ => by exact y_move (.plain rfl)) rfl ?_
    refine st_p (fun _ => by exact y_indexArr (.plain rfl) (.plain rfl) (Int.toNat_of_nonneg hbi.1).symm (by rw [hcl]; omega)) rfl ?_
    refine st_p (fun _ => by exact y_fieldPtr (.plain rfl)) rfl ?_
    refine st_p (fun _ => by exact y_load (.plain rfl) (by first | exact .here | exact k1 | exact k2 | exact k3 | exact k4 | exact k5 | exact k6 | exact k7 | exact k8 | exact k9 | exact k10 | exact k11 | exact k12 | exact k13) (Sv.encCs_get (l := ((l.reverse.take k).foldl (Sv.stop1 t) rn).1.children) (i := ((l.getD ((l.length : Int) - 1 - (k : Int)).toNat default)).toNat) (by rw [hcl]; omega) pad)) rfl ?_
    refine st_p (fun _ => by exact y_eql (.plain rfl) (.plain rfl)) rfl ?_
    refine aops_nil ?_
    refine awx_cond rfl (fun h1 => ?_) (fun h1 => ?_)
    · skip
      try simp only [decide_eq_true_eq, decide_eq_false_iff_not, Bool.not_eq_true', Bool.not_eq_false', Bool.not_eq_true, Bool.not_eq_false, List.length_map, Int.ofNat_lt, Int.ofNat_le, Bool.or_eq_true, Bool.and_eq_true, Bool.or_eq_false_iff, Bool.and_eq_false_iff] at h1
      refine awx_seq ?_
      refine awx_region rfl ?_
      refine st_p (fun _ => by exact y_load (.plain rfl) (by first | exact .here | exact k1 | exact k2 | exact k3 | exact k4 | exact k5 | exact k6 | exact k7 | exact k8 | exact k9 | exact k10 | exact k11 | exact k12 | exact k13) rfl) rfl ?_
      refine st_p (fun _ => by exact y_move (.plain rfl)) rfl ?_
      refine aops_call (blt_lt rfl) (.plain rfl) (.cons (.plain rfl) (.cons (.plain rfl) (.cons (.plain rfl) .nil))) (ACalls.updP (by apply Takes.cons (by first | exact .here | exact k1 | exact k2 | exact k3 | exact k4 | exact k5 | exact k6 | exact k7 | exact k8 | exact k9 | exact k10 | exact k11 | exact k12 | exact k13); apply Takes.cons (by first | exact .here | exact k1 | exact k2 | exact k3 | exact k4 | exact k5 | exact k6 | exact k7 | exact k8 | exact k9 | exact k10 | exact k11 | exact k12 | exact k13); apply Takes.cons (by first | exact .here | exact k1 | exact k2 | exact k3 | exact k4 | exact k5 | exact k6 | exact k7 | exact k8 | exact k9 | exact k10 | exact k11 | exact k12 | exact k13); exact .nil _) (setR_c r j q t pad _ tk _ 2 (by rw [hcl]; exact hbi)) ?_)
      rintro v st rfl
      refine aops_nil ?_
      refine awx_region rfl ?_
      refine st_p (fun _ => by exact y_load (.plain rfl) (by first | exact .here | exact k1 | exact k2 | exact k3 | exact k4 | exact k5 | exact k6 | exact k7 | exact k8 | exact k9 | exact k10 | exact k11 | exact k12 | exact k13) rfl) rfl ?_
      refine st_p (fun _ => by exact y_move (.plain rfl)) rfl ?_
      refine aops_call (blt_lt rfl) (.plain rfl) (.cons (.plain rfl) (.cons (.plain rfl) (.cons (.plain rfl) .nil))) (ACalls.updP (by apply Takes.cons (by first | exact .here | exact k1 | exact k2 | exact k3 | exact k4 | exact k5 | exact k6 | exact k7 | exact k8 | exact k9 | exact k10 | exact k11 | exact k12 | exact k13); apply Takes.cons (by first | exact .here | exact k1 | exact k2 | exact k3 | exact k4 | exact k5 | exact k6 | exact k7 | exact k8 | exact k9 | exact k10 | exact k11 | exact k12 | exact k13); apply Takes.cons (by first | exact .here | exact k1 | exact k2 | exact k3 | exact k4 | exact k5 | exact k6 | exact k7 | exact k8 | exact k9 | exact k10 | exact k11 | exact k12 | exact k13); exact .nil _) (actR_c r j q t pad (Sv.set ((l.reverse.take k).foldl (Sv.stop1 t) rn) (l.getD ((l.length : Int) - 1 - (k : Int)).toNat default) 2) tk (by show ((l.reverse.take k).foldl (Sv.stop1 t) rn).2.length ≤ _; omega) 4 _) ?_)
      rintro v st ⟨tk1, rfl⟩
      refine aops_nil ?_
      refine ⟨rfl, tk1, ?_⟩
      have e1 : Sv.stop1 t ((l.reverse.take k).foldl (Sv.stop1 t) rn) (l.getD ((l.length : Int) - 1 - (k : Int)).toNat default) = Sv.act t (Sv.set ((l.reverse.take k).foldl (Sv.stop1 t) rn) (l.getD ((l.length : Int) - 1 - (k : Int)).toNat default) 2) 4 (l.getD ((l.length : Int) - 1 - (k : Int)).toNat default) := if_pos h1
      rw [Sv.rev_succ _ _ _ _ hk, e1]
      all_goals rfl
    · skip
      try simp only [decide_eq_true_eq, decide_eq_false_iff_not, Bool.not_eq_true', Bool.not_eq_false', Bool.not_eq_true, Bool.not_eq_false, List.length_map, Int.ofNat_lt, Int.ofNat_le, Bool.or_eq_true, Bool.and_eq_true, Bool.or_eq_false_iff, Bool.and_eq_false_iff] at h1
      refine awx_skip ?_
      refine ⟨rfl, tk, ?_⟩
      have e1 : Sv.stop1 t ((l.reverse.take k).foldl (Sv.stop1 t) rn) (l.getD ((l.length : Int) - 1 - (k : Int)).toNat default) = ((l.reverse.take k).foldl (Sv.stop1 t) rn) := if_neg h1
      rw [Sv.rev_succ _ _ _ _ hk, e1]
  rintro v st' ⟨stx, rfl, tk, rfl⟩
  refine ⟨.ready, none, _, Take.perm (.there .here), by simp, ?_⟩
  rw [Sv.rev_all]
  refine retX (.inl rfl) (Takes.perm (by apply Takes.cons (by first | exact .here | exact k1 | exact k2 | exact k3 | exact k4 | exact k5 | exact k6 | exact k7 | exact k8 | exact k9 | exact k10 | exact k11 | exact k12 | exact k13); exact .nil _)) .nil (VShift.of2 (st' := [.cells r [.int (Sv.stop t rn l).1.status, .arr j 0 (Sv.stop t rn l).1.children.length, .sl 1 ((Sv.stop t rn l).1.restarts.map encI), .bool (Sv.stop t rn l).1.failed, .int q.strategy, .int q.intensity, .int q.window, .sl 3 (q.children.map encCh), .int t, .grow 4 tk ((Sv.stop t rn l).2.map encEv)], .cells j (((Sv.stop t rn l).1.children.map encCs).flatten ++ pad), .tail tk]) (AV.Imp.refl _) (by (repeat (first | exact .refl _ | exact .nil _ | apply ItLe2.cons (by first | exact .here | exact k1 | exact k2 | exact k3 | exact k4 | exact k5 | exact k6 | exact k7 | exact k8 | exact k9 | exact k10 | exact k11 | exact k12 | exact k13) | apply ItLe2.cells (by first | exact .here | exact k1 | exact k2 | exact k3 | exact k4 | exact k5 | exact k6 | exact k7 | exact k8 | exact k9 | exact k10 | exact k11 | exact k12 | exact k13) (by repeat (first | exact .nil | refine .cons (by first | exact AV.Imp.refl _ | exact Sl.imp | exact AV.Imp.agg RowOf.imp | exact AV.Imp.grow_sl | exact AV.Imp.nil_grow | exact AV.Imp.full_grow | exact AV.Imp.own_grow | exact AV.Imp.grow_of rfl | exact AV.Imp.sl_of rfl | exact AV.Imp.int_of (by omega) | exact AV.Imp.of_eq (by first | omega | simpa)) ?_)) | apply ItLe2.tail0)); done)) ⟨tk, rfl⟩

theorem all_c (r j : Nat) (q : Sv.Spc) (t : Int) (pad : List AV) (rn : Sv.Rn) (tok : Option Nat) (hn : rn.1.children.length ≤ 1000) : ACalls Try.prog 43 [.ptr r 0] [.cells r [.int rn.1.status, .arr j 0 rn.1.children.length, .sl 1 (rn.1.restarts.map encI), .bool rn.1.failed, .int q.strategy, .int q.intensity, .int q.window, .sl 3 (q.children.map encCh), .int t, .grow 4 tok (rn.2.map encEv)], .cells j ((rn.1.children.map encCs).flatten ++ pad), .tail tok] (fun v st => v = .sl 1 ((Sv.idx rn.1.children.length).map encI) ∧ st = [.cells r [.int rn.1.status, .arr j 0 rn.1.children.length, .sl 1 (rn.1.restarts.map encI), .bool rn.1.failed, .int q.strategy, .int q.intensity, .int q.window, .sl 3 (q.children.map encCh), .int t, .grow 4 tok (rn.2.map encEv)], .cells j ((rn.1.children.map encCs).flatten ++ pad), .tail tok]) := by
  refine acalls_body Try.func43 (by kernel_rfl) rfl Try.ntmps43 (le_ rfl) ?_
  rw [Try.results43]
  refine awp_seq ?_
  refine awp_region ?_
  refine st_p (fun _ => by exact y_assign (.plain rfl)) rfl ?_
  refine aops_nil ?_
  refine awp_seq ?_
  refine awp_region ?_
  refine st_p (fun _ => by exact y_assign (.plain rfl)) rfl ?_
  refine aops_nil ?_
  refine awp_seq ?_
  refine awp_seq ?_
  refine awp_region ?_
  refine st_p (fun _ => by exact y_move (.plain rfl)) rfl ?_
  first | refine st_p (fun _ => by exact y_nilPtr (.plain rfl)) rfl ?_ | refine st_p (fun _ => by exact y_nilE (.plain rfl)) rfl ?_
  refine st_p (fun _ => by exact y_fieldPtr (.plain rfl)) rfl ?_
  refine st_p (fun _ => by exact y_fieldPtr (.plain rfl)) rfl ?_
  refine st_p (fun _ => by exact y_load (.plain rfl) (by first | exact .here | exact k1 | exact k2 | exact k3 | exact k4 | exact k5 | exact k6 | exact k7 | exact k8 | exact k9 | exact k10 | exact k11 | exact k12 | exact k13) rfl) rfl ?_
  first | refine st_p (fun _ => by exact y_lenN (.plain rfl)) rfl ?_ | refine st_p (fun _ => by exact y_len (.plain rfl)) rfl ?_ | refine st_p (fun _ => by exact y_lenArr (.plain rfl)) rfl ?_ | refine st_p (fun _ => by exact y_vlen (.plain rfl)) rfl ?_ | refine st_p (fun _ => by exact y_strLen (by rfl) (.plain rfl)) rfl ?_
  refine st_p (fun _ => by exact y_move (.plain rfl)) rfl ?_
  refine aops_nil ?_
  refine awp_block ?_
  refine awp_loop2 (X := Nat × Option Nat) [10] (.cons rfl .nil) (fun σ x => ((3, .grow 1 x.2 ((Sv.idx x.1).map encI)) : Nat × AV) :: ((11, .int (x.1 : Int)) : Nat × AV) :: σ) (fun R x => .tail x.2 :: .cells r [.int rn.1.status, .arr j 0 rn.1.children.length, .sl 1 (rn.1.restarts.map encI), .bool rn.1.failed, .int q.strategy, .int q.intensity, .int q.window, .sl 3 (q.children.map encCh), .int t, .grow 4 tok (rn.2.map encEv)] :: .cells j ((rn.1.children.map encCs).flatten ++ pad) :: .tail tok :: R) (fun x => x.1 ≤ rn.1.children.length ∧ True) (fun x => rn.1.children.length - x.1) (0, none) (by exact Weak.of2 (by (repeat (first | exact .nil _ | refine .cons rfl (by first | exact AV.Imp.refl _ | exact Sl.imp | exact AV.Imp.agg RowOf.imp | exact AV.Imp.grow_sl | exact AV.Imp.nil_grow | exact AV.Imp.full_grow | exact AV.Imp.own_grow | exact AV.Imp.grow_of rfl | exact AV.Imp.sl_of rfl | exact AV.Imp.int_of (by omega) | exact AV.Imp.of_eq (by first | omega | simpa)) ?_)); done) (by (repeat (first | exact .refl _ | exact .nil _ | apply ItLe2.cons (by first | exact .here | exact k1 | exact k2 | exact k3 | exact k4 | exact k5 | exact k6 | exact k7 | exact k8 | exact k9 | exact k10 | exact k11 | exact k12 | exact k13) | apply ItLe2.cells (by first | exact .here | exact k1 | exact k2 | exact k3 | exact k4 | exact k5 | exact k6 | exact k7 | exact k8 | exact k9 | exact k10 | exact k11 | exact k12 | exact k13) (by repeat (first | exact .nil | refine .cons (by first | exact AV.Imp.refl _ | exact Sl.imp | exact AV.Imp.agg RowOf.imp | exact AV.Imp.grow_sl | exact AV.Imp.nil_grow | exact AV.Imp.full_grow | exact AV.Imp.own_grow | exact AV.Imp.grow_of rfl | exact AV.Imp.sl_of rfl | exact AV.Imp.int_of (by omega) | exact AV.Imp.of_eq (by first | omega | simpa)) ?_)) | apply ItLe2.tail0)); done)) ⟨Nat.zero_le _, trivial⟩ ?_
  rintro ⟨k, ta⟩ ⟨hk, -⟩
  simp only at hk
  have hil := Sv.idx_len k
  dsimp only
  refine awp_seq ?_
  refine awp_region ?_
  refine st_p (fun _ => by exact y_lss (.plain rfl) (.plain rfl)) rfl ?_
  refine aops_nil ?_
  refine awp_seq ?_
  refine awp_cond rfl (fun h1 => ?_) (fun h1 => ?_)
  · skip
    try simp only [decide_eq_true_eq, decide_eq_false_iff_not, Bool.not_eq_true', Bool.not_eq_false', Bool.not_eq_true, Bool.not_eq_false, List.length_map, Int.ofNat_lt, Int.ofNat_le, Bool.or_eq_true, Bool.and_eq_true, Bool.or_eq_false_iff, Bool.and_eq_false_iff] at h1
    refine awp_skip ?_
    refine awp_seq ?_
    refine awp_block ?_
    refine awp_seq ?_
    refine awp_region ?_
    refine st_p (fun _ => by exact y_move (.plain rfl)) rfl ?_
    refine st_p (fun _ => by exact y_assign (.plain rfl)) rfl ?_
    refine aops_nil ?_
    refine awp_region ?_
    refine st_p (fun _ => by exact y_move (.plain rfl)) rfl ?_
    refine st_p (fun _ => by exact y_move (.plain rfl)) rfl ?_
    refine st_p (fun _ => by exact y_buildSlice (.cons (.plain rfl) inferInstance (by rfl) .nil) rfl (le_ rfl)) rfl ?_
    first | refine st_append (by rfl) (.plain rfl) (.plain rfl) (by first | (simp; try omega) | omega) rfl fun tA => ?_ | refine st_appendT (by rfl) (.plain rfl) (.plain rfl) (by first | exact .here | exact k1 | exact k2 | exact k3 | exact k4 | exact k5 | exact k6 | exact k7 | exact k8 | exact k9 | exact k10 | exact k11 | exact k12 | exact k13) (by first | (simp; try omega) | omega) rfl fun tA => ?_ | refine st_append0 (by rfl) (.plain rfl) (.plain rfl) (by first | (simp; try omega) | omega) rfl fun tA => ?_ | refine st_append0 (by rfl) (.imp (.plain rfl) AV.Imp.nil_grow) (.plain rfl) (by first | (simp; try omega) | omega) rfl fun tA => ?_ | refine st_append0 (by rfl) (.imp (.plain rfl) AV.Imp.full_grow) (.plain rfl) (by first | (simp; try omega) | omega) rfl fun tA => ?_ | refine st_appendT (by rfl) (.imp (.plain rfl) AV.Imp.own_grow) (.plain rfl) (by first | exact .here | exact k1 | exact k2 | exact k3 | exact k4 | exact k5 | exact k6 | exact k7 | exact k8 | exact k9 | exact k10 | exact k11 | exact k12 | exact k13) (by first | (simp; try omega) | omega) rfl fun tA => ?_
    refine st_p (fun _ => by exact y_assign (.plain rfl)) rfl ?_
    refine aops_nil ?_
    refine awp_region ?_
    refine st_p (fun _ => by exact y_add (.plain rfl) (.plain rfl) (by first | omega | (simp; omega) | (simp at hc; omega) | (simp at hc ⊢; omega) | (simp; done))) rfl ?_
    refine st_p (fun _ => by exact y_move (.plain rfl)) rfl ?_
    refine aops_nil ?_
    refine ⟨(k + 1, tA), ⟨by show k + 1 ≤ _; omega, trivial⟩, by show rn.1.children.length - (k + 1) < rn.1.children.length - k; omega, ?_⟩
    dsimp only
    exact Weak.of2 (by (repeat (first | exact .nil _ | refine .cons rfl (by first | exact AV.Imp.refl _ | exact AV.Imp.grow_of (Sv.idx_add k).symm | exact Sl.imp | exact AV.Imp.agg RowOf.imp | exact AV.Imp.grow_sl | exact AV.Imp.nil_grow | exact AV.Imp.full_grow | exact AV.Imp.own_grow | exact AV.Imp.grow_of rfl | exact AV.Imp.sl_of rfl | exact AV.Imp.int_of (by omega) | exact AV.Imp.of_eq (by first | omega | simpa)) ?_)); done) (by (repeat (first | exact .refl _ | exact .nil _ | apply ItLe2.cons (by first | exact .here | exact k1 | exact k2 | exact k3 | exact k4 | exact k5 | exact k6 | exact k7 | exact k8 | exact k9 | exact k10 | exact k11 | exact k12 | exact k13) | apply ItLe2.cells (by first | exact .here | exact k1 | exact k2 | exact k3 | exact k4 | exact k5 | exact k6 | exact k7 | exact k8 | exact k9 | exact k10 | exact k11 | exact k12 | exact k13) (by repeat (first | exact .nil | refine .cons (by first | exact AV.Imp.refl _ | exact AV.Imp.grow_of (Sv.idx_add k).symm | exact Sl.imp | exact AV.Imp.agg RowOf.imp | exact AV.Imp.grow_sl | exact AV.Imp.nil_grow | exact AV.Imp.full_grow | exact AV.Imp.own_grow | exact AV.Imp.grow_of rfl | exact AV.Imp.sl_of rfl | exact AV.Imp.int_of (by omega) | exact AV.Imp.of_eq (by first | omega | simpa)) ?_)) | apply ItLe2.tail0)); done)
  · skip
    try simp only [decide_eq_true_eq, decide_eq_false_iff_not, Bool.not_eq_true', Bool.not_eq_false', Bool.not_eq_true, Bool.not_eq_false, List.length_map, Int.ofNat_lt, Int.ofNat_le, Bool.or_eq_true, Bool.and_eq_true, Bool.or_eq_false_iff, Bool.and_eq_false_iff] at h1
    refine awp_exit ?_
    refine awp_seq ?_
    refine awp_region ?_
    refine st_p (fun _ => by exact y_move (.plain rfl)) rfl ?_
    refine st_p (fun _ => by exact y_assign (.plain rfl)) rfl ?_
    refine aops_nil ?_
    refine awp_ret ?_
    obtain rfl : k = rn.1.children.length := by omega
    exact retG (.inr rfl) (.cons (.tmp rfl) .nil) (VShift.of2 AV.Imp.grow_sl (by (repeat (first | exact .refl _ | exact .nil _ | apply ItLe2.cons (by first | exact .here | exact k1 | exact k2 | exact k3 | exact k4 | exact k5 | exact k6 | exact k7 | exact k8 | exact k9 | exact k10 | exact k11 | exact k12 | exact k13) | apply ItLe2.cells (by first | exact .here | exact k1 | exact k2 | exact k3 | exact k4 | exact k5 | exact k6 | exact k7 | exact k8 | exact k9 | exact k10 | exact k11 | exact k12 | exact k13) (by repeat (first | exact .nil | refine .cons (by first | exact AV.Imp.refl _ | exact Sl.imp | exact AV.Imp.agg RowOf.imp | exact AV.Imp.grow_sl | exact AV.Imp.nil_grow | exact AV.Imp.full_grow | exact AV.Imp.own_grow | exact AV.Imp.grow_of rfl | exact AV.Imp.sl_of rfl | exact AV.Imp.int_of (by omega) | exact AV.Imp.of_eq (by first | omega | simpa)) ?_)) | apply ItLe2.tail0)); done)) ⟨rfl, rfl⟩

theorem countA_c (j : Nat) (pad : List AV) (l : List Sv.Cs) (s : Int) (hl : l.length ≤ 1000000) : ACalls Try.prog 33 [.arr j 0 l.length, .int s] [.cells j ((l.map encCs).flatten ++ pad)] (fun v st => v = .int (Sv.count l s) ∧ st = [.cells j ((l.map encCs).flatten ++ pad)]) := by
  refine acalls_body Try.func33 (by kernel_rfl) rfl Try.ntmps33 (le_ rfl) ?_
  rw [Try.results33]
  refine awp_seq ?_
  refine awp_region ?_
  refine st_p (fun _ => by exact y_assign (.plain rfl)) rfl ?_
  refine aops_nil ?_
  refine awp_seq ?_
  refine awp_region ?_
  refine st_p (fun _ => by exact y_assign (.plain rfl)) rfl ?_
  refine aops_nil ?_
  refine awp_seq ?_
  refine awp_seq ?_
  refine awp_region ?_
  refine st_p (fun _ => by exact y_move (.plain rfl)) rfl ?_
  first | refine st_p (fun _ => by exact y_lenN (.plain rfl)) rfl ?_ | refine st_p (fun _ => by exact y_len (.plain rfl)) rfl ?_ | refine st_p (fun _ => by exact y_lenArr (.plain rfl)) rfl ?_ | refine st_p (fun _ => by exact y_vlen (.plain rfl)) rfl ?_ | refine st_p (fun _ => by exact y_strLen (by rfl) (.plain rfl)) rfl ?_
  refine st_p (fun _ => by exact y_move (.plain rfl)) rfl ?_
  refine aops_nil ?_
  refine awp_block ?_
  refine awp_loop2 (X := Nat) [1, 8, 9] (.cons rfl (.cons rfl (.cons rfl .nil))) (fun σ x => ((5, .int (((l.take x).filter (fun c : Sv.Cs => decide (c.status = s))).length : Int)) : Nat × AV) :: ((10, .int (x : Int)) : Nat × AV) :: σ) (fun R x => .cells j ((l.map encCs).flatten ++ pad) :: R) (fun x => x ≤ l.length) (fun x => l.length - x) 0 (by exact Weak.of2 (by (repeat (first | exact .nil _ | refine .cons rfl (by first | exact AV.Imp.refl _ | exact Sl.imp | exact AV.Imp.agg RowOf.imp | exact AV.Imp.grow_sl | exact AV.Imp.nil_grow | exact AV.Imp.full_grow | exact AV.Imp.own_grow | exact AV.Imp.grow_of rfl | exact AV.Imp.sl_of rfl | exact AV.Imp.int_of (by omega) | exact AV.Imp.of_eq (by first | omega | simpa)) ?_)); done) (by (repeat (first | exact .refl _ | exact .nil _ | apply ItLe2.cons (by first | exact .here | exact k1 | exact k2 | exact k3 | exact k4 | exact k5 | exact k6 | exact k7 | exact k8 | exact k9 | exact k10 | exact k11 | exact k12 | exact k13) | apply ItLe2.cells (by first | exact .here | exact k1 | exact k2 | exact k3 | exact k4 | exact k5 | exact k6 | exact k7 | exact k8 | exact k9 | exact k10 | exact k11 | exact k12 | exact k13) (by repeat (first | exact .nil | refine .cons (by first | exact AV.Imp.refl _ | exact Sl.imp | exact AV.Imp.agg RowOf.imp | exact AV.Imp.grow_sl | exact AV.Imp.nil_grow | exact AV.Imp.full_grow | exact AV.Imp.own_grow | exact AV.Imp.grow_of rfl | exact AV.Imp.sl_of rfl | exact AV.Imp.int_of (by omega) | exact AV.Imp.of_eq (by first | omega | simpa)) ?_)) | apply ItLe2.tail0)); done)) (Nat.zero_le _) ?_
  rintro k hk
  have hfl : ((l.take k).filter (fun c : Sv.Cs => decide (c.status = s))).length ≤ l.length := by
    have h1 := List.length_filter_le (fun c : Sv.Cs => decide (c.status = s)) (l.take k)
    rw [List.length_take] at h1; omega
  refine awp_seq ?_
  refine awp_region ?_
  refine st_p (fun _ => by exact y_lss (.plain rfl) (.plain rfl)) rfl ?_
  refine aops_nil ?_
  refine awp_seq ?_
  refine awp_cond rfl (fun h1 => ?_) (fun h1 => ?_)
  · skip
    try simp only [decide_eq_true_eq, decide_eq_false_iff_not, Bool.not_eq_true', Bool.not_eq_false', Bool.not_eq_true, Bool.not_eq_false, List.length_map, Int.ofNat_lt, Int.ofNat_le, Bool.or_eq_true, Bool.and_eq_true, Bool.or_eq_false_iff, Bool.and_eq_false_iff] at h1
    refine awp_skip ?_
    refine awp_seq ?_
    refine awp_block ?_
    refine awp_seq ?_
    have hgk : l.getD k default = l[k] := by rw [List.getD, List.getElem?_eq_getElem (by omega), Option.getD_some]
    refine awp_region ?_
    refine st_p (fun _ => by exact y_indexArr (.plain rfl) (.plain rfl) rfl (by omega)) rfl ?_
    refine st_p (fun _ => by exact y_loadRow (f := encCs) (L := l) (e := l.getD k default) (pad := pad) (j := j) (fun _ => rfl) (.plain rfl) (by first | exact .here | exact k1 | exact k2 | exact k3 | exact k4 | exact k5 | exact k6 | exact k7 | exact k8 | exact k9 | exact k10 | exact k11 | exact k12 | exact k13) ⟨by omega, by rw [List.getD, List.getElem?_eq_getElem (by omega), Option.getD_some]⟩) rfl ?_
    refine st_n (fun _ => by exact y_alloc) rfl fun n1 => ?_
    refine st_s (fun _ => by exact y_storeW (by rfl) rfl (.plain rfl) (.plain rfl) (by first | exact .here | exact u1 | exact u2 | exact u3 | exact u4 | exact u5 | exact u6 | exact u7 | exact u8 | exact u9 | exact u10 | exact u11 | exact u12 | exact u13) (by rfl)) ?_
    refine aops_nil ?_
    refine awp_seq ?_
    refine awp_region ?_
    refine st_p (fun _ => by exact y_fieldPtr (.plain rfl)) rfl ?_
    refine st_p (fun _ => by exact y_load (.plain rfl) (by first | exact .here | exact k1 | exact k2 | exact k3 | exact k4 | exact k5 | exact k6 | exact k7 | exact k8 | exact k9 | exact k10 | exact k11 | exact k12 | exact k13) rfl) rfl ?_
    refine st_p (fun _ => by exact y_move (.plain rfl)) rfl ?_
    refine st_p (fun _ => by exact y_eql (.plain rfl) (.plain rfl)) rfl ?_
    refine aops_nil ?_
    refine awp_cond rfl (fun h2 => ?_) (fun h2 => ?_)
    · skip
      try simp only [decide_eq_true_eq, decide_eq_false_iff_not, Bool.not_eq_true', Bool.not_eq_false', Bool.not_eq_true, Bool.not_eq_false, List.length_map, Int.ofNat_lt, Int.ofNat_le, Bool.or_eq_true, Bool.and_eq_true, Bool.or_eq_false_iff, Bool.and_eq_false_iff] at h2
      have hp : (fun c : Sv.Cs => decide (c.status = s)) l[k] = true := decide_eq_true (hgk ▸ h2)
      refine awp_region ?_
      refine st_p (fun _ => by exact y_move (.plain rfl)) rfl ?_
      refine st_p (fun _ => by exact y_add (.plain rfl) (.plain rfl) (by first | omega | (simp; omega) | (simp at hc; omega) | (simp at hc ⊢; omega) | (simp; done))) rfl ?_
      refine st_p (fun _ => by exact y_assign (.plain rfl)) rfl ?_
      refine aops_nil ?_
      refine awp_region ?_
      refine st_p (fun _ => by exact y_add (.plain rfl) (.plain rfl) (by first | omega | (simp; omega) | (simp at hc; omega) | (simp at hc ⊢; omega) | (simp; done))) rfl ?_
      refine st_p (fun _ => by exact y_move (.plain rfl)) rfl ?_
      refine aops_nil ?_
      refine ⟨k + 1, by omega, by omega, ?_⟩
      rw [Sv.flt_t (fun c : Sv.Cs => decide (c.status = s)) l k (by assumption) hp]
      exact Weak.of2 (by (repeat (first | exact .nil _ | refine .cons rfl (by first | exact AV.Imp.refl _ | exact AV.Imp.int_of (by push_cast; omega) | exact Sl.imp | exact AV.Imp.agg RowOf.imp | exact AV.Imp.grow_sl | exact AV.Imp.nil_grow | exact AV.Imp.full_grow | exact AV.Imp.own_grow | exact AV.Imp.grow_of rfl | exact AV.Imp.sl_of rfl | exact AV.Imp.int_of (by omega) | exact AV.Imp.of_eq (by first | omega | simpa)) ?_)); done) (by (repeat (first | exact .refl _ | exact .nil _ | apply ItLe2.cons (by first | exact .here | exact k1 | exact k2 | exact k3 | exact k4 | exact k5 | exact k6 | exact k7 | exact k8 | exact k9 | exact k10 | exact k11 | exact k12 | exact k13) | apply ItLe2.cells (by first | exact .here | exact k1 | exact k2 | exact k3 | exact k4 | exact k5 | exact k6 | exact k7 | exact k8 | exact k9 | exact k10 | exact k11 | exact k12 | exact k13) (by repeat (first | exact .nil | refine .cons (by first | exact AV.Imp.refl _ | exact Sl.imp | exact AV.Imp.agg RowOf.imp | exact AV.Imp.grow_sl | exact AV.Imp.nil_grow | exact AV.Imp.full_grow | exact AV.Imp.own_grow | exact AV.Imp.grow_of rfl | exact AV.Imp.sl_of rfl | exact AV.Imp.int_of (by omega) | exact AV.Imp.of_eq (by first | omega | simpa)) ?_)) | apply ItLe2.tail0)); done)
    · skip
      try simp only [decide_eq_true_eq, decide_eq_false_iff_not, Bool.not_eq_true', Bool.not_eq_false', Bool.not_eq_true, Bool.not_eq_false, List.length_map, Int.ofNat_lt, Int.ofNat_le, Bool.or_eq_true, Bool.and_eq_true, Bool.or_eq_false_iff, Bool.and_eq_false_iff] at h2
      have hp : (fun c : Sv.Cs => decide (c.status = s)) l[k] = false := decide_eq_false (hgk ▸ h2)
      refine awp_skip ?_
      refine awp_region ?_
      refine st_p (fun _ => by exact y_add (.plain rfl) (.plain rfl) (by first | omega | (simp; omega) | (simp at hc; omega) | (simp at hc ⊢; omega) | (simp; done))) rfl ?_
      refine st_p (fun _ => by exact y_move (.plain rfl)) rfl ?_
      refine aops_nil ?_
      refine ⟨k + 1, by omega, by omega, ?_⟩
      rw [Sv.flt_f (fun c : Sv.Cs => decide (c.status = s)) l k (by assumption) hp]
      exact Weak.of2 (by (repeat (first | exact .nil _ | refine .cons rfl (by first | exact AV.Imp.refl _ | exact Sl.imp | exact AV.Imp.agg RowOf.imp | exact AV.Imp.grow_sl | exact AV.Imp.nil_grow | exact AV.Imp.full_grow | exact AV.Imp.own_grow | exact AV.Imp.grow_of rfl | exact AV.Imp.sl_of rfl | exact AV.Imp.int_of (by omega) | exact AV.Imp.of_eq (by first | omega | simpa)) ?_)); done) (by (repeat (first | exact .refl _ | exact .nil _ | apply ItLe2.cons (by first | exact .here | exact k1 | exact k2 | exact k3 | exact k4 | exact k5 | exact k6 | exact k7 | exact k8 | exact k9 | exact k10 | exact k11 | exact k12 | exact k13) | apply ItLe2.cells (by first | exact .here | exact k1 | exact k2 | exact k3 | exact k4 | exact k5 | exact k6 | exact k7 | exact k8 | exact k9 | exact k10 | exact k11 | exact k12 | exact k13) (by repeat (first | exact .nil | refine .cons (by first | exact AV.Imp.refl _ | exact Sl.imp | exact AV.Imp.agg RowOf.imp | exact AV.Imp.grow_sl | exact AV.Imp.nil_grow | exact AV.Imp.full_grow | exact AV.Imp.own_grow | exact AV.Imp.grow_of rfl | exact AV.Imp.sl_of rfl | exact AV.Imp.int_of (by omega) | exact AV.Imp.of_eq (by first | omega | simpa)) ?_)) | apply ItLe2.tail0)); done)
  · skip
    try simp only [decide_eq_true_eq, decide_eq_false_iff_not, Bool.not_eq_true', Bool.not_eq_false', Bool.not_eq_true, Bool.not_eq_false, List.length_map, Int.ofNat_lt, Int.ofNat_le, Bool.or_eq_true, Bool.and_eq_true, Bool.or_eq_false_iff, Bool.and_eq_false_iff] at h1
    refine awp_exit ?_
    refine awp_seq ?_
    refine awp_region ?_
    refine st_p (fun _ => by exact y_move (.plain rfl)) rfl ?_
    refine st_p (fun _ => by exact y_assign (.plain rfl)) rfl ?_
    refine aops_nil ?_
    refine awp_ret ?_
    obtain rfl : k = l.length := by omega
    rw [List.take_length]
    exact retG (.inr rfl) (.cons (.tmp rfl) .nil) (VShift.of2 (AV.Imp.refl _) (by (repeat (first | exact .refl _ | exact .nil _ | apply ItLe2.cons (by first | exact .here | exact k1 | exact k2 | exact k3 | exact k4 | exact k5 | exact k6 | exact k7 | exact k8 | exact k9 | exact k10 | exact k11 | exact k12 | exact k13) | apply ItLe2.cells (by first | exact .here | exact k1 | exact k2 | exact k3 | exact k4 | exact k5 | exact k6 | exact k7 | exact k8 | exact k9 | exact k10 | exact k11 | exact k12 | exact k13) (by repeat (first | exact .nil | refine .cons (by first | exact AV.Imp.refl _ | exact Sl.imp | exact AV.Imp.agg RowOf.imp | exact AV.Imp.grow_sl | exact AV.Imp.nil_grow | exact AV.Imp.full_grow | exact AV.Imp.own_grow | exact AV.Imp.grow_of rfl | exact AV.Imp.sl_of rfl | exact AV.Imp.int_of (by omega) | exact AV.Imp.of_eq (by first | omega | simpa)) ?_)) | apply ItLe2.tail0)); done)) ⟨rfl, rfl⟩

theorem again_c (r j : Nat) (q : Sv.Spc) (t : Int) (pad : List AV) (rn : Sv.Rn) (tok : Option Nat) (hn : rn.1.children.length ≤ 1000) (ho : rn.2.length ≤ 100000) (hs : ∀ c ∈ rn.1.children, 0 ≤ c.starts ∧ c.starts ≤ 1099511627777) : ACalls Try.prog 41 [.ptr r 0] [.cells r [.int rn.1.status, .arr j 0 rn.1.children.length, .sl 1 (rn.1.restarts.map encI), .bool rn.1.failed, .int q.strategy, .int q.intensity, .int q.window, .sl 3 (q.children.map encCh), .int t, .grow 4 tok (rn.2.map encEv)], .cells j ((rn.1.children.map encCs).flatten ++ pad), .tail tok] (fun v st => ∃ tk, st = [.cells r [.int (Sv.again t rn).1.status, .arr j 0 (Sv.again t rn).1.children.length, .sl 1 ((Sv.again t rn).1.restarts.map encI), .bool (Sv.again t rn).1.failed, .int q.strategy, .int q.intensity, .int q.window, .sl 3 (q.children.map encCh), .int t, .grow 4 tk ((Sv.again t rn).2.map encEv)], .cells j (((Sv.again t rn).1.children.map encCs).flatten ++ pad), .tail tk]) := by
  refine acalls_body Try.func41 (by kernel_rfl) rfl Try.ntmps41 (le_ rfl) ?_
  rw [Try.results41]
  refine awp_seq ?_
  refine awp_seq ?_
  refine awp_region ?_
  refine st_p (fun _ => by exact y_move (.plain rfl)) rfl ?_
  first | refine st_p (fun _ => by exact y_nilPtr (.plain rfl)) rfl ?_ | refine st_p (fun _ => by exact y_nilE (.plain rfl)) rfl ?_
  refine st_p (fun _ => by exact y_fieldPtr (.plain rfl)) rfl ?_
  refine st_p (fun _ => by exact y_fieldPtr (.plain rfl)) rfl ?_
  refine st_p (fun _ => by exact y_load (.plain rfl) (by first | exact .here | exact k1 | exact k2 | exact k3 | exact k4 | exact k5 | exact k6 | exact k7 | exact k8 | exact k9 | exact k10 | exact k11 | exact k12 | exact k13) rfl) rfl ?_
  first | refine st_p (fun _ => by exact y_lenN (.plain rfl)) rfl ?_ | refine st_p (fun _ => by exact y_len (.plain rfl)) rfl ?_ | refine st_p (fun _ => by exact y_lenArr (.plain rfl)) rfl ?_ | refine st_p (fun _ => by exact y_vlen (.plain rfl)) rfl ?_ | refine st_p (fun _ => by exact y_strLen (by rfl) (.plain rfl)) rfl ?_
  refine st_p (fun _ => by exact y_move (.plain rfl)) rfl ?_
  refine aops_nil ?_
  refine awp_block ?_
  refine awp_loop2 (X := Nat × Option Nat) [0, 8, 9] (.cons rfl (.cons rfl (.cons rfl .nil))) (fun σ x => ((10, .int (x.1 : Int)) : Nat × AV) :: σ) (fun R x => .cells r [.int ((Sv.idx x.1).foldl (Sv.again1 t) rn).1.status, .arr j 0 ((Sv.idx x.1).foldl (Sv.again1 t) rn).1.children.length, .sl 1 (((Sv.idx x.1).foldl (Sv.again1 t) rn).1.restarts.map encI), .bool ((Sv.idx x.1).foldl (Sv.again1 t) rn).1.failed, .int q.strategy, .int q.intensity, .int q.window, .sl 3 (q.children.map encCh), .int t, .grow 4 x.2 (((Sv.idx x.1).foldl (Sv.again1 t) rn).2.map encEv)] :: .cells j ((((Sv.idx x.1).foldl (Sv.again1 t) rn).1.children.map encCs).flatten ++ pad) :: .tail x.2 :: R) (fun x => x.1 ≤ rn.1.children.length ∧ True) (fun x => rn.1.children.length - x.1) (0, tok) (by exact Weak.of2 (by (repeat (first | exact .nil _ | refine .cons rfl (by first | exact AV.Imp.refl _ | exact Sl.imp | exact AV.Imp.agg RowOf.imp | exact AV.Imp.grow_sl | exact AV.Imp.nil_grow | exact AV.Imp.full_grow | exact AV.Imp.own_grow | exact AV.Imp.grow_of rfl | exact AV.Imp.sl_of rfl | exact AV.Imp.int_of (by omega) | exact AV.Imp.of_eq (by first | omega | simpa)) ?_)); done) (by (repeat (first | exact .refl _ | exact .nil _ | apply ItLe2.cons (by first | exact .here | exact k1 | exact k2 | exact k3 | exact k4 | exact k5 | exact k6 | exact k7 | exact k8 | exact k9 | exact k10 | exact k11 | exact k12 | exact k13) | apply ItLe2.cells (by first | exact .here | exact k1 | exact k2 | exact k3 | exact k4 | exact k5 | exact k6 | exact k7 | exact k8 | exact k9 | exact k10 | exact k11 | exact k12 | exact k13) (by repeat (first | exact .nil | refine .cons (by first | exact AV.Imp.refl _ | exact Sl.imp | exact AV.Imp.agg RowOf.imp | exact AV.Imp.grow_sl | exact AV.Imp.nil_grow | exact AV.Imp.full_grow | exact AV.Imp.own_grow | exact AV.Imp.grow_of rfl | exact AV.Imp.sl_of rfl | exact AV.Imp.int_of (by omega) | exact AV.Imp.of_eq (by first | omega | simpa)) ?_)) | apply ItLe2.tail0)); done)) ⟨Nat.zero_le _, trivial⟩ ?_
  rintro ⟨k, tk⟩ ⟨hk, -⟩
  simp only at hk
  have hcl := Sv.fold_len _ (Sv.again1_len t) (Sv.idx k) rn
  have hco := Sv.fold_out _ (Sv.again1_out t) (Sv.idx k) rn
  rw [Sv.idx_len] at hco
  dsimp only
  refine awp_seq ?_
  refine awp_region ?_
  refine st_p (fun _ => by exact y_lss (.plain rfl) (.plain rfl)) rfl ?_
  refine aops_nil ?_
  refine awp_seq ?_
  refine awp_cond rfl (fun h1 => ?_) (fun h1 => ?_)
  · skip
    try simp only [decide_eq_true_eq, decide_eq_false_iff_not, Bool.not_eq_true', Bool.not_eq_false', Bool.not_eq_true, Bool.not_eq_false, List.length_map, Int.ofNat_lt, Int.ofNat_le, Bool.or_eq_true, Bool.and_eq_true, Bool.or_eq_false_iff, Bool.and_eq_false_iff] at h1
    refine awp_skip ?_
    refine awp_seq ?_
    refine awp_block ?_
    refine awp_seq ?_
    refine awp_region ?_
    refine st_p (fun _ => by exact y_move (.plain rfl)) rfl ?_
    refine st_p (fun _ => by exact y_indexArr (.plain rfl) (.plain rfl) rfl (by first | omega | (rw [hcl]; omega))) rfl ?_
    refine st_p (fun _ => by exact y_loadRow (f := encCs) (L := ((Sv.idx k).foldl (Sv.again1 t) rn).1.children) (e := (((Sv.idx k).foldl (Sv.again1 t) rn).1.children.getD k default)) (fun _ => rfl) (.plain rfl) (by first | exact .here | exact k1 | exact k2 | exact k3 | exact k4 | exact k5 | exact k6 | exact k7 | exact k8 | exact k9 | exact k10 | exact k11 | exact k12 | exact k13) ⟨by rw [hcl]; omega, by rw [List.getD, List.getElem?_eq_getElem (by rw [hcl]; omega), Option.getD_some]⟩) rfl ?_
    refine st_n (fun _ => by exact y_alloc) rfl fun nc => ?_
    refine st_p (fun _ => by exact y_assign (.plain rfl)) rfl ?_
    refine st_s (fun _ => by exact y_storeW (by rfl) rfl (.plain rfl) (.plain rfl) (by first | exact .here | exact u1 | exact u2 | exact u3 | exact u4 | exact u5 | exact u6 | exact u7 | exact u8 | exact u9 | exact u10 | exact u11 | exact u12 | exact u13) (by rfl)) ?_
    refine aops_nil ?_
    refine awp_seq ?_
    refine awp_region ?_
    refine st_p (fun _ => by exact y_fieldPtr (.plain rfl)) rfl ?_
    refine st_p (fun _ => by exact y_load (.plain rfl) (by first | exact .here | exact k1 | exact k2 | exact k3 | exact k4 | exact k5 | exact k6 | exact k7 | exact k8 | exact k9 | exact k10 | exact k11 | exact k12 | exact k13) rfl) rfl ?_
    refine st_p (fun _ => by exact y_eql (.plain rfl) (.plain rfl)) rfl ?_
    refine aops_nil ?_
    refine awp_cond rfl (fun h2 => ?_) (fun h2 => ?_)
    · skip
      try simp only [decide_eq_true_eq, decide_eq_false_iff_not, Bool.not_eq_true', Bool.not_eq_false', Bool.not_eq_true, Bool.not_eq_false, List.length_map, Int.ofNat_lt, Int.ofNat_le, Bool.or_eq_true, Bool.and_eq_true, Bool.or_eq_false_iff, Bool.and_eq_false_iff] at h2
      refine awp_seq ?_
      have hkp := Sv.again_keep t rn k k (Nat.le_refl _)
      have hsk : 0 ≤ (((Sv.idx k).foldl (Sv.again1 t) rn).1.children.getD k default).starts ∧ (((Sv.idx k).foldl (Sv.again1 t) rn).1.children.getD k default).starts ≤ 1099511627777 := by
        rw [hkp, List.getD, List.getElem?_eq_getElem (by omega), Option.getD_some]
        exact hs _ (List.getElem_mem _)
      refine awp_anyT (ks := [.free, .free, .free, .free, .read, .free, .free, .read, .free, .free, .free, .write]) [.cells j _, .cells r _, .cells nc _] (by apply Takes.cons (by first | exact .here | exact k1 | exact k2 | exact k3 | exact k4 | exact k5 | exact k6 | exact k7 | exact k8 | exact k9 | exact k10 | exact k11 | exact k12 | exact k13); apply Takes.cons (by first | exact .here | exact k1 | exact k2 | exact k3 | exact k4 | exact k5 | exact k6 | exact k7 | exact k8 | exact k9 | exact k10 | exact k11 | exact k12 | exact k13); apply Takes.cons (by first | exact .here | exact k1 | exact k2 | exact k3 | exact k4 | exact k5 | exact k6 | exact k7 | exact k8 | exact k9 | exact k10 | exact k11 | exact k12 | exact k13); exact .nil _) (by kernel_rfl) (fun K => ?_) ?_
      · skip
        refine dr_p (fun _ => by exact y_move (.plain rfl)) rfl ?_
        first | refine dr_p (fun _ => by exact y_nilPtr (.plain rfl)) rfl ?_ | refine dr_p (fun _ => by exact y_nilE (.plain rfl)) rfl ?_
        refine dr_p (fun _ => by exact y_fieldPtr (.plain rfl)) rfl ?_
        refine dr_p (fun _ => by exact y_fieldPtr (.plain rfl)) rfl ?_
        refine dr_r (fun _ => by exact y_load (.plain rfl) (by first | exact .here | exact k1 | exact k2 | exact k3 | exact k4 | exact k5 | exact k6 | exact k7 | exact k8 | exact k9 | exact k10 | exact k11 | exact k12 | exact k13) rfl) rfl ?_
        refine dr_p (fun _ => by exact y_move (.plain rfl)) rfl ?_
        refine dr_p (fun _ => by exact y_fieldPtr (.plain rfl)) rfl ?_
        refine dr_r (fun _ => by exact y_load (.plain rfl) (by first | exact .here | exact k1 | exact k2 | exact k3 | exact k4 | exact k5 | exact k6 | exact k7 | exact k8 | exact k9 | exact k10 | exact k11 | exact k12 | exact k13) rfl) rfl ?_
        refine dr_p (fun _ => by exact y_add (.plain rfl) (.plain rfl) (by first | omega | (simp; omega) | (simp at hc; omega) | (simp at hc ⊢; omega) | (simp; done))) rfl ?_
        refine dr_p (fun _ => by exact y_build (out := [_, _]) (.cons (.plain rfl) inferInstance rfl (.cons (.plain rfl) inferInstance rfl .nil)) rfl rfl) rfl ?_
        refine dr_p (fun _ => by exact y_indexArr (.plain rfl) (.plain rfl) rfl (by first | omega | (rw [hcl]; omega))) rfl ?_
        refine dr_s (fun _ => by exact y_storeRow (f := encCs) (L := ((Sv.idx k).foldl (Sv.again1 t) rn).1.children) (e := (⟨1, (((Sv.idx k).foldl (Sv.again1 t) rn).1.children.getD k default).starts + 1⟩ : Sv.Cs)) (by rfl) (fun _ => rfl) (.plain rfl) (.plain rfl) (by rw [hcl]; omega) (by first | exact .here | exact u1 | exact u2 | exact u3 | exact u4 | exact u5 | exact u6 | exact u7 | exact u8 | exact u9 | exact u10 | exact u11 | exact u12 | exact u13)) ?_
        refine dr_nil ?_
        refine awp_items (st' := [.cells j ((((({ ((Sv.idx k).foldl (Sv.again1 t) rn).1 with children := ((Sv.idx k).foldl (Sv.again1 t) rn).1.children.set k (⟨1, (((Sv.idx k).foldl (Sv.again1 t) rn).1.children.getD k default).starts + 1⟩ : Sv.Cs) }, ((Sv.idx k).foldl (Sv.again1 t) rn).2) : Sv.Rn)).1.children.map encCs).flatten ++ pad), .cells r [.int ((({ ((Sv.idx k).foldl (Sv.again1 t) rn).1 with children := ((Sv.idx k).foldl (Sv.again1 t) rn).1.children.set k (⟨1, (((Sv.idx k).foldl (Sv.again1 t) rn).1.children.getD k default).starts + 1⟩ : Sv.Cs) }, ((Sv.idx k).foldl (Sv.again1 t) rn).2) : Sv.Rn)).1.status, .arr j 0 ((({ ((Sv.idx k).foldl (Sv.again1 t) rn).1 with children := ((Sv.idx k).foldl (Sv.again1 t) rn).1.children.set k (⟨1, (((Sv.idx k).foldl (Sv.again1 t) rn).1.children.getD k default).starts + 1⟩ : Sv.Cs) }, ((Sv.idx k).foldl (Sv.again1 t) rn).2) : Sv.Rn)).1.children.length, .sl 1 (((({ ((Sv.idx k).foldl (Sv.again1 t) rn).1 with children := ((Sv.idx k).foldl (Sv.again1 t) rn).1.children.set k (⟨1, (((Sv.idx k).foldl (Sv.again1 t) rn).1.children.getD k default).starts + 1⟩ : Sv.Cs) }, ((Sv.idx k).foldl (Sv.again1 t) rn).2) : Sv.Rn)).1.restarts.map encI), .bool ((({ ((Sv.idx k).foldl (Sv.again1 t) rn).1 with children := ((Sv.idx k).foldl (Sv.again1 t) rn).1.children.set k (⟨1, (((Sv.idx k).foldl (Sv.again1 t) rn).1.children.getD k default).starts + 1⟩ : Sv.Cs) }, ((Sv.idx k).foldl (Sv.again1 t) rn).2) : Sv.Rn)).1.failed, .int q.strategy, .int q.intensity, .int q.window, .sl 3 (q.children.map encCh), .int t, .grow 4 tk (((({ ((Sv.idx k).foldl (Sv.again1 t) rn).1 with children := ((Sv.idx k).foldl (Sv.again1 t) rn).1.children.set k (⟨1, (((Sv.idx k).foldl (Sv.again1 t) rn).1.children.getD k default).starts + 1⟩ : Sv.Cs) }, ((Sv.idx k).foldl (Sv.again1 t) rn).2) : Sv.Rn)).2.map encEv)], .cells nc (encCs (((Sv.idx k).foldl (Sv.again1 t) rn).1.children.getD k default)), .tail tk]) (by simp only [List.length_set]; rfl) ?_
        refine awp_region ?_
        refine st_p (fun _ => by exact y_move (.plain rfl)) rfl ?_
        refine st_p (fun _ => by exact y_move (.plain rfl)) rfl ?_
        refine aops_call (blt_lt rfl) (.plain rfl) (.cons (.plain rfl) (.cons (.plain rfl) (.cons (.plain rfl) .nil))) (ACalls.updP (by apply Takes.cons (by first | exact .here | exact k1 | exact k2 | exact k3 | exact k4 | exact k5 | exact k6 | exact k7 | exact k8 | exact k9 | exact k10 | exact k11 | exact k12 | exact k13); apply Takes.cons (by first | exact .here | exact k1 | exact k2 | exact k3 | exact k4 | exact k5 | exact k6 | exact k7 | exact k8 | exact k9 | exact k10 | exact k11 | exact k12 | exact k13); apply Takes.cons (by first | exact .here | exact k1 | exact k2 | exact k3 | exact k4 | exact k5 | exact k6 | exact k7 | exact k8 | exact k9 | exact k10 | exact k11 | exact k12 | exact k13); exact .nil _) (actR_c r j q t pad ((({ ((Sv.idx k).foldl (Sv.again1 t) rn).1 with children := ((Sv.idx k).foldl (Sv.again1 t) rn).1.children.set k (⟨1, (((Sv.idx k).foldl (Sv.again1 t) rn).1.children.getD k default).starts + 1⟩ : Sv.Cs) }, ((Sv.idx k).foldl (Sv.again1 t) rn).2) : Sv.Rn)) tk (by show ((Sv.idx k).foldl (Sv.again1 t) rn).2.length ≤ _; omega) 3 (k : Int)) ?_)
        rintro v st ⟨tk1, rfl⟩
        refine aops_nil ?_
        refine awp_region ?_
        refine st_p (fun _ => by exact y_add (.plain rfl) (.plain rfl) (by first | omega | (simp; omega) | (simp at hc; omega) | (simp at hc ⊢; omega) | (simp; done))) rfl ?_
        refine st_p (fun _ => by exact y_move (.plain rfl)) rfl ?_
        refine aops_nil ?_
        have e1 : Sv.again1 t ((Sv.idx k).foldl (Sv.again1 t) rn) (k : Int) = Sv.act t ((({ ((Sv.idx k).foldl (Sv.again1 t) rn).1 with children := ((Sv.idx k).foldl (Sv.again1 t) rn).1.children.set k (⟨1, (((Sv.idx k).foldl (Sv.again1 t) rn).1.children.getD k default).starts + 1⟩ : Sv.Cs) }, ((Sv.idx k).foldl (Sv.again1 t) rn).2) : Sv.Rn)) 3 (k : Int) := if_pos h2
        refine ⟨(k + 1, tk1), ⟨by show k + 1 ≤ _; omega, trivial⟩, by show rn.1.children.length - (k + 1) < rn.1.children.length - k; omega, ?_⟩
        dsimp only
        rw [Sv.idx_fold, e1]
        exact Weak.of2 (by (repeat (first | exact .nil _ | refine .cons rfl (by first | exact AV.Imp.refl _ | exact Sl.imp | exact AV.Imp.agg RowOf.imp | exact AV.Imp.grow_sl | exact AV.Imp.nil_grow | exact AV.Imp.full_grow | exact AV.Imp.own_grow | exact AV.Imp.grow_of rfl | exact AV.Imp.sl_of rfl | exact AV.Imp.int_of (by omega) | exact AV.Imp.of_eq (by first | omega | simpa)) ?_)); done) (by (repeat (first | exact .refl _ | exact .nil _ | apply ItLe2.cons (by first | exact .here | exact k1 | exact k2 | exact k3 | exact k4 | exact k5 | exact k6 | exact k7 | exact k8 | exact k9 | exact k10 | exact k11 | exact k12 | exact k13) | apply ItLe2.cells (by first | exact .here | exact k1 | exact k2 | exact k3 | exact k4 | exact k5 | exact k6 | exact k7 | exact k8 | exact k9 | exact k10 | exact k11 | exact k12 | exact k13) (by repeat (first | exact .nil | refine .cons (by first | exact AV.Imp.refl _ | exact Sl.imp | exact AV.Imp.agg RowOf.imp | exact AV.Imp.grow_sl | exact AV.Imp.nil_grow | exact AV.Imp.full_grow | exact AV.Imp.own_grow | exact AV.Imp.grow_of rfl | exact AV.Imp.sl_of rfl | exact AV.Imp.int_of (by omega) | exact AV.Imp.of_eq (by first | omega | simpa)) ?_)) | apply ItLe2.tail0)); done)
      · kernel_rfl
    · skip
      try simp only [decide_eq_true_eq, decide_eq_false_iff_not, Bool.not_eq_true', Bool.not_eq_false', Bool.not_eq_true, Bool.not_eq_false, List.length_map, Int.ofNat_lt, Int.ofNat_le, Bool.or_eq_true, Bool.and_eq_true, Bool.or_eq_false_iff, Bool.and_eq_false_iff] at h2
      refine awp_skip ?_
      refine awp_region ?_
      refine st_p (fun _ => by exact y_add (.plain rfl) (.plain rfl) (by first | omega | (simp; omega) | (simp at hc; omega) | (simp at hc ⊢; omega) | (simp; done))) rfl ?_
      refine st_p (fun _ => by exact y_move (.plain rfl)) rfl ?_
      refine aops_nil ?_
      have e1 : Sv.again1 t ((Sv.idx k).foldl (Sv.again1 t) rn) (k : Int) = ((Sv.idx k).foldl (Sv.again1 t) rn) := if_neg h2
      refine ⟨(k + 1, tk), ⟨by show k + 1 ≤ _; omega, trivial⟩, by show rn.1.children.length - (k + 1) < rn.1.children.length - k; omega, ?_⟩
      dsimp only
      rw [Sv.idx_fold, e1]
      exact Weak.of2 (by (repeat (first | exact .nil _ | refine .cons rfl (by first | exact AV.Imp.refl _ | exact Sl.imp | exact AV.Imp.agg RowOf.imp | exact AV.Imp.grow_sl | exact AV.Imp.nil_grow | exact AV.Imp.full_grow | exact AV.Imp.own_grow | exact AV.Imp.grow_of rfl | exact AV.Imp.sl_of rfl | exact AV.Imp.int_of (by omega) | exact AV.Imp.of_eq (by first | omega | simpa)) ?_)); done) (by (repeat (first | exact .refl _ | exact .nil _ | apply ItLe2.cons (by first | exact .here | exact k1 | exact k2 | exact k3 | exact k4 | exact k5 | exact k6 | exact k7 | exact k8 | exact k9 | exact k10 | exact k11 | exact k12 | exact k13) | apply ItLe2.cells (by first | exact .here | exact k1 | exact k2 | exact k3 | exact k4 | exact k5 | exact k6 | exact k7 | exact k8 | exact k9 | exact k10 | exact k11 | exact k12 | exact k13) (by repeat (first | exact .nil | refine .cons (by first | exact AV.Imp.refl _ | exact Sl.imp | exact AV.Imp.agg RowOf.imp | exact AV.Imp.grow_sl | exact AV.Imp.nil_grow | exact AV.Imp.full_grow | exact AV.Imp.own_grow | exact AV.Imp.grow_of rfl | exact AV.Imp.sl_of rfl | exact AV.Imp.int_of (by omega) | exact AV.Imp.of_eq (by first | omega | simpa)) ?_)) | apply ItLe2.tail0)); done)
  · skip
    try simp only [decide_eq_true_eq, decide_eq_false_iff_not, Bool.not_eq_true', Bool.not_eq_false', Bool.not_eq_true, Bool.not_eq_false, List.length_map, Int.ofNat_lt, Int.ofNat_le, Bool.or_eq_true, Bool.and_eq_true, Bool.or_eq_false_iff, Bool.and_eq_false_iff] at h1
    refine awp_exit ?_
    refine awp_region ?_
    refine st_p (fun _ => by exact y_move (.plain rfl)) rfl ?_
    first | refine st_p (fun _ => by exact y_nilPtr (.plain rfl)) rfl ?_ | refine st_p (fun _ => by exact y_nilE (.plain rfl)) rfl ?_
    refine st_p (fun _ => by exact y_fieldPtr (.plain rfl)) rfl ?_
    refine st_p (fun _ => by exact y_fieldPtr (.plain rfl)) rfl ?_
    refine st_storeN (cs' := [_, _, _, _, _, _, _, _, _, _]) (by rfl) rfl (.plain rfl) (.plain rfl) (by first | exact .here | exact u1 | exact u2 | exact u3 | exact u4 | exact u5 | exact u6 | exact u7 | exact u8 | exact u9 | exact u10 | exact u11 | exact u12 | exact u13) (le_ rfl) (by rfl) ?_
    refine aops_nil ?_
    obtain rfl : k = rn.1.children.length := by omega
    exact retG (.inl rfl) .nil (VShift.of2 (st' := [.cells r [.int ((({ ((Sv.idx rn.1.children.length).foldl (Sv.again1 t) rn).1 with status := 1 }, ((Sv.idx rn.1.children.length).foldl (Sv.again1 t) rn).2) : Sv.Rn)).1.status, .arr j 0 ((({ ((Sv.idx rn.1.children.length).foldl (Sv.again1 t) rn).1 with status := 1 }, ((Sv.idx rn.1.children.length).foldl (Sv.again1 t) rn).2) : Sv.Rn)).1.children.length, .sl 1 (((({ ((Sv.idx rn.1.children.length).foldl (Sv.again1 t) rn).1 with status := 1 }, ((Sv.idx rn.1.children.length).foldl (Sv.again1 t) rn).2) : Sv.Rn)).1.restarts.map encI), .bool ((({ ((Sv.idx rn.1.children.length).foldl (Sv.again1 t) rn).1 with status := 1 }, ((Sv.idx rn.1.children.length).foldl (Sv.again1 t) rn).2) : Sv.Rn)).1.failed, .int q.strategy, .int q.intensity, .int q.window, .sl 3 (q.children.map encCh), .int t, .grow 4 tk (((({ ((Sv.idx rn.1.children.length).foldl (Sv.again1 t) rn).1 with status := 1 }, ((Sv.idx rn.1.children.length).foldl (Sv.again1 t) rn).2) : Sv.Rn)).2.map encEv)], .cells j ((((({ ((Sv.idx rn.1.children.length).foldl (Sv.again1 t) rn).1 with status := 1 }, ((Sv.idx rn.1.children.length).foldl (Sv.again1 t) rn).2) : Sv.Rn)).1.children.map encCs).flatten ++ pad), .tail tk]) (AV.Imp.refl _) (by (repeat (first | exact .refl _ | exact .nil _ | apply ItLe2.cons (by first | exact .here | exact k1 | exact k2 | exact k3 | exact k4 | exact k5 | exact k6 | exact k7 | exact k8 | exact k9 | exact k10 | exact k11 | exact k12 | exact k13) | apply ItLe2.cells (by first | exact .here | exact k1 | exact k2 | exact k3 | exact k4 | exact k5 | exact k6 | exact k7 | exact k8 | exact k9 | exact k10 | exact k11 | exact k12 | exact k13) (by repeat (first | exact .nil | refine .cons (by first | exact AV.Imp.refl _ | exact Sl.imp | exact AV.Imp.agg RowOf.imp | exact AV.Imp.grow_sl | exact AV.Imp.nil_grow | exact AV.Imp.full_grow | exact AV.Imp.own_grow | exact AV.Imp.grow_of rfl | exact AV.Imp.sl_of rfl | exact AV.Imp.int_of (by omega) | exact AV.Imp.of_eq (by first | omega | simpa)) ?_)) | apply ItLe2.tail0)); done)) ⟨tk, rfl⟩

theorem ended_c (r j : Nat) (q : Sv.Spc) (t : Int) (pad : List AV) (rn : Sv.Rn) (tok : Option Nat) (ho : rn.2.length ≤ 200000) : ACalls Try.prog 42 [.ptr r 0] [.cells r [.int rn.1.status, .arr j 0 rn.1.children.length, .sl 1 (rn.1.restarts.map encI), .bool rn.1.failed, .int q.strategy, .int q.intensity, .int q.window, .sl 3 (q.children.map encCh), .int t, .grow 4 tok (rn.2.map encEv)], .cells j ((rn.1.children.map encCs).flatten ++ pad), .tail tok] (fun v st => ∃ tk, st = [.cells r [.int (Sv.ended t rn).1.status, .arr j 0 (Sv.ended t rn).1.children.length, .sl 1 ((Sv.ended t rn).1.restarts.map encI), .bool (Sv.ended t rn).1.failed, .int q.strategy, .int q.intensity, .int q.window, .sl 3 (q.children.map encCh), .int t, .grow 4 tk ((Sv.ended t rn).2.map encEv)], .cells j (((Sv.ended t rn).1.children.map encCs).flatten ++ pad), .tail tk]) := by
  refine acalls_body Try.func42 (by kernel_rfl) rfl Try.ntmps42 (le_ rfl) ?_
  rw [Try.results42]
  refine awp_seq ?_
  refine awp_region ?_
  refine st_p (fun _ => by exact y_move (.plain rfl)) rfl ?_
  first | refine st_p (fun _ => by exact y_nilPtr (.plain rfl)) rfl ?_ | refine st_p (fun _ => by exact y_nilE (.plain rfl)) rfl ?_
  refine st_p (fun _ => by exact y_fieldPtr (.plain rfl)) rfl ?_
  refine st_p (fun _ => by exact y_fieldPtr (.plain rfl)) rfl ?_
  refine st_storeN (cs' := [_, _, _, _, _, _, _, _, _, _]) (by rfl) rfl (.plain rfl) (.plain rfl) (by first | exact .here | exact u1 | exact u2 | exact u3 | exact u4 | exact u5 | exact u6 | exact u7 | exact u8 | exact u9 | exact u10 | exact u11 | exact u12 | exact u13) (le_ rfl) (by rfl) ?_
  refine aops_nil ?_
  refine awp_seq ?_
  refine awp_region ?_
  refine st_p (fun _ => by exact y_move (.plain rfl)) rfl ?_
  first | refine st_p (fun _ => by exact y_nilPtr (.plain rfl)) rfl ?_ | refine st_p (fun _ => by exact y_nilE (.plain rfl)) rfl ?_
  refine st_p (fun _ => by exact y_fieldPtr (.plain rfl)) rfl ?_
  refine st_p (fun _ => by exact y_fieldPtr (.plain rfl)) rfl ?_
  refine st_p (fun _ => by exact y_load (.plain rfl) (by first | exact .here | exact k1 | exact k2 | exact k3 | exact k4 | exact k5 | exact k6 | exact k7 | exact k8 | exact k9 | exact k10 | exact k11 | exact k12 | exact k13) rfl) rfl ?_
  refine aops_nil ?_
  refine awp_cond rfl (fun h1 => ?_) (fun h1 => ?_)
  · skip
    try simp only [decide_eq_true_eq, decide_eq_false_iff_not, Bool.not_eq_true', Bool.not_eq_false', Bool.not_eq_true, Bool.not_eq_false, List.length_map, Int.ofNat_lt, Int.ofNat_le, Bool.or_eq_true, Bool.and_eq_true, Bool.or_eq_false_iff, Bool.and_eq_false_iff] at h1
    refine awp_region ?_
    refine st_p (fun _ => by exact y_move (.plain rfl)) rfl ?_
    refine aops_call (blt_lt rfl) (.plain rfl) (.cons (.plain rfl) (.cons (.plain rfl) (.cons (.plain rfl) .nil))) (ACalls.updP (by apply Takes.cons (by first | exact .here | exact k1 | exact k2 | exact k3 | exact k4 | exact k5 | exact k6 | exact k7 | exact k8 | exact k9 | exact k10 | exact k11 | exact k12 | exact k13); apply Takes.cons (by first | exact .here | exact k1 | exact k2 | exact k3 | exact k4 | exact k5 | exact k6 | exact k7 | exact k8 | exact k9 | exact k10 | exact k11 | exact k12 | exact k13); apply Takes.cons (by first | exact .here | exact k1 | exact k2 | exact k3 | exact k4 | exact k5 | exact k6 | exact k7 | exact k8 | exact k9 | exact k10 | exact k11 | exact k12 | exact k13); exact .nil _) (actR_c r j q t pad ((({ rn.1 with status := 4 }, rn.2) : Sv.Rn)) tok (by show rn.2.length ≤ _; omega) 5 (-1)) ?_)
    rintro v st ⟨tk1, rfl⟩
    refine aops_nil ?_
    have e1 : Sv.ended t rn = Sv.act t ((({ rn.1 with status := 4 }, rn.2) : Sv.Rn)) 5 (-1) := if_pos (by assumption)
    exact retG (.inl rfl) .nil (VShift.of2 (st' := [.cells r [.int (Sv.ended t rn).1.status, .arr j 0 (Sv.ended t rn).1.children.length, .sl 1 ((Sv.ended t rn).1.restarts.map encI), .bool (Sv.ended t rn).1.failed, .int q.strategy, .int q.intensity, .int q.window, .sl 3 (q.children.map encCh), .int t, .grow 4 tk1 ((Sv.ended t rn).2.map encEv)], .cells j (((Sv.ended t rn).1.children.map encCs).flatten ++ pad), .tail tk1]) (AV.Imp.refl _) (by rw [e1]; (repeat (first | exact .refl _ | exact .nil _ | apply ItLe2.cons (by first | exact .here | exact k1 | exact k2 | exact k3 | exact k4 | exact k5 | exact k6 | exact k7 | exact k8 | exact k9 | exact k10 | exact k11 | exact k12 | exact k13) | apply ItLe2.cells (by first | exact .here | exact k1 | exact k2 | exact k3 | exact k4 | exact k5 | exact k6 | exact k7 | exact k8 | exact k9 | exact k10 | exact k11 | exact k12 | exact k13) (by repeat (first | exact .nil | refine .cons (by first | exact AV.Imp.refl _ | exact Sl.imp | exact AV.Imp.agg RowOf.imp | exact AV.Imp.grow_sl | exact AV.Imp.nil_grow | exact AV.Imp.full_grow | exact AV.Imp.own_grow | exact AV.Imp.grow_of rfl | exact AV.Imp.sl_of rfl | exact AV.Imp.int_of (by omega) | exact AV.Imp.of_eq (by first | omega | simpa)) ?_)) | apply ItLe2.tail0)); done)) ⟨tk1, rfl⟩
  · skip
    try simp only [decide_eq_true_eq, decide_eq_false_iff_not, Bool.not_eq_true', Bool.not_eq_false', Bool.not_eq_true, Bool.not_eq_false, List.length_map, Int.ofNat_lt, Int.ofNat_le, Bool.or_eq_true, Bool.and_eq_true, Bool.or_eq_false_iff, Bool.and_eq_false_iff] at h1
    refine awp_skip ?_
    have e1 : Sv.ended t rn = ((({ rn.1 with status := 4 }, rn.2) : Sv.Rn)) := if_neg (by first | assumption | simp_all)
    exact retG (.inl rfl) .nil (VShift.of2 (st' := [.cells r [.int (Sv.ended t rn).1.status, .arr j 0 (Sv.ended t rn).1.children.length, .sl 1 ((Sv.ended t rn).1.restarts.map encI), .bool (Sv.ended t rn).1.failed, .int q.strategy, .int q.intensity, .int q.window, .sl 3 (q.children.map encCh), .int t, .grow 4 tok ((Sv.ended t rn).2.map encEv)], .cells j (((Sv.ended t rn).1.children.map encCs).flatten ++ pad), .tail tok]) (AV.Imp.refl _) (by rw [e1]; (repeat (first | exact .refl _ | exact .nil _ | apply ItLe2.cons (by first | exact .here | exact k1 | exact k2 | exact k3 | exact k4 | exact k5 | exact k6 | exact k7 | exact k8 | exact k9 | exact k10 | exact k11 | exact k12 | exact k13) | apply ItLe2.cells (by first | exact .here | exact k1 | exact k2 | exact k3 | exact k4 | exact k5 | exact k6 | exact k7 | exact k8 | exact k9 | exact k10 | exact k11 | exact k12 | exact k13) (by repeat (first | exact .nil | refine .cons (by first | exact AV.Imp.refl _ | exact Sl.imp | exact AV.Imp.agg RowOf.imp | exact AV.Imp.grow_sl | exact AV.Imp.nil_grow | exact AV.Imp.full_grow | exact AV.Imp.own_grow | exact AV.Imp.grow_of rfl | exact AV.Imp.sl_of rfl | exact AV.Imp.int_of (by omega) | exact AV.Imp.of_eq (by first | omega | simpa)) ?_)) | apply ItLe2.tail0)); done)) ⟨tok, rfl⟩

theorem shut_c (r j : Nat) (q : Sv.Spc) (t : Int) (pad : List AV) (rn : Sv.Rn) (tok : Option Nat) (hn : rn.1.children.length ≤ 1000) (ho : rn.2.length ≤ 10000) : ACalls Try.prog 31 [.ptr r 0] [.cells r [.int rn.1.status, .arr j 0 rn.1.children.length, .sl 1 (rn.1.restarts.map encI), .bool rn.1.failed, .int q.strategy, .int q.intensity, .int q.window, .sl 3 (q.children.map encCh), .int t, .grow 4 tok (rn.2.map encEv)], .cells j ((rn.1.children.map encCs).flatten ++ pad), .tail tok] (fun v st => ∃ tk, st = [.cells r [.int (Sv.shut t rn).1.status, .arr j 0 (Sv.shut t rn).1.children.length, .sl 1 ((Sv.shut t rn).1.restarts.map encI), .bool (Sv.shut t rn).1.failed, .int q.strategy, .int q.intensity, .int q.window, .sl 3 (q.children.map encCh), .int t, .grow 4 tk ((Sv.shut t rn).2.map encEv)], .cells j (((Sv.shut t rn).1.children.map encCs).flatten ++ pad), .tail tk]) := by
  refine acalls_body Try.func31 (by kernel_rfl) rfl Try.ntmps31 (le_ rfl) ?_
  rw [Try.results31]
  refine awp_seq ?_
  refine awp_seq ?_
  refine awp_region ?_
  refine st_p (fun _ => by exact y_move (.plain rfl)) rfl ?_
  first | refine st_p (fun _ => by exact y_nilPtr (.plain rfl)) rfl ?_ | refine st_p (fun _ => by exact y_nilE (.plain rfl)) rfl ?_
  refine st_p (fun _ => by exact y_fieldPtr (.plain rfl)) rfl ?_
  refine st_p (fun _ => by exact y_fieldPtr (.plain rfl)) rfl ?_
  refine st_p (fun _ => by exact y_load (.plain rfl) (by first | exact .here | exact k1 | exact k2 | exact k3 | exact k4 | exact k5 | exact k6 | exact k7 | exact k8 | exact k9 | exact k10 | exact k11 | exact k12 | exact k13) rfl) rfl ?_
  first | refine st_p (fun _ => by exact y_lenN (.plain rfl)) rfl ?_ | refine st_p (fun _ => by exact y_len (.plain rfl)) rfl ?_ | refine st_p (fun _ => by exact y_lenArr (.plain rfl)) rfl ?_ | refine st_p (fun _ => by exact y_vlen (.plain rfl)) rfl ?_ | refine st_p (fun _ => by exact y_strLen (by rfl) (.plain rfl)) rfl ?_
  refine st_p (fun _ => by exact y_move (.plain rfl)) rfl ?_
  refine aops_nil ?_
  refine awp_block ?_
  refine awp_loop2 (X := Nat × Option Nat) [0, 8, 9] (.cons rfl (.cons rfl (.cons rfl .nil))) (fun σ x => ((10, .int (x.1 : Int)) : Nat × AV) :: σ) (fun R x => .cells r [.int ((Sv.idx x.1).foldl Sv.shut1 rn).1.status, .arr j 0 ((Sv.idx x.1).foldl Sv.shut1 rn).1.children.length, .sl 1 (((Sv.idx x.1).foldl Sv.shut1 rn).1.restarts.map encI), .bool ((Sv.idx x.1).foldl Sv.shut1 rn).1.failed, .int q.strategy, .int q.intensity, .int q.window, .sl 3 (q.children.map encCh), .int t, .grow 4 x.2 (((Sv.idx x.1).foldl Sv.shut1 rn).2.map encEv)] :: .cells j ((((Sv.idx x.1).foldl Sv.shut1 rn).1.children.map encCs).flatten ++ pad) :: .tail x.2 :: R) (fun x => x.1 ≤ rn.1.children.length ∧ True) (fun x => rn.1.children.length - x.1) (0, tok) (by exact Weak.of2 (by (repeat (first | exact .nil _ | refine .cons rfl (by first | exact AV.Imp.refl _ | exact Sl.imp | exact AV.Imp.agg RowOf.imp | exact AV.Imp.grow_sl | exact AV.Imp.nil_grow | exact AV.Imp.full_grow | exact AV.Imp.own_grow | exact AV.Imp.grow_of rfl | exact AV.Imp.sl_of rfl | exact AV.Imp.int_of (by omega) | exact AV.Imp.of_eq (by first | omega | simpa)) ?_)); done) (by (repeat (first | exact .refl _ | exact .nil _ | apply ItLe2.cons (by first | exact .here | exact k1 | exact k2 | exact k3 | exact k4 | exact k5 | exact k6 | exact k7 | exact k8 | exact k9 | exact k10 | exact k11 | exact k12 | exact k13) | apply ItLe2.cells (by first | exact .here | exact k1 | exact k2 | exact k3 | exact k4 | exact k5 | exact k6 | exact k7 | exact k8 | exact k9 | exact k10 | exact k11 | exact k12 | exact k13) (by repeat (first | exact .nil | refine .cons (by first | exact AV.Imp.refl _ | exact Sl.imp | exact AV.Imp.agg RowOf.imp | exact AV.Imp.grow_sl | exact AV.Imp.nil_grow | exact AV.Imp.full_grow | exact AV.Imp.own_grow | exact AV.Imp.grow_of rfl | exact AV.Imp.sl_of rfl | exact AV.Imp.int_of (by omega) | exact AV.Imp.of_eq (by first | omega | simpa)) ?_)) | apply ItLe2.tail0)); done)) ⟨Nat.zero_le _, trivial⟩ ?_
  rintro ⟨k, tk⟩ ⟨hk, -⟩
  simp only at hk
  have hcl := Sv.fold_len _ Sv.shut1_len (Sv.idx k) rn
  have hco := Sv.fold_out _ Sv.shut1_out (Sv.idx k) rn
  rw [Sv.idx_len] at hco
  dsimp only
  refine awp_seq ?_
  refine awp_region ?_
  refine st_p (fun _ => by exact y_lss (.plain rfl) (.plain rfl)) rfl ?_
  refine aops_nil ?_
  refine awp_seq ?_
  refine awp_cond rfl (fun h1 => ?_) (fun h1 => ?_)
  · skip
    try simp only [decide_eq_true_eq, decide_eq_false_iff_not, Bool.not_eq_true', Bool.not_eq_false', Bool.not_eq_true, Bool.not_eq_false, List.length_map, Int.ofNat_lt, Int.ofNat_le, Bool.or_eq_true, Bool.and_eq_true, Bool.or_eq_false_iff, Bool.and_eq_false_iff] at h1
    refine awp_skip ?_
    refine awp_seq ?_
    refine awp_block ?_
    refine awp_seq ?_
    refine awp_region ?_
    refine st_p (fun _ => by exact y_move (.plain rfl)) rfl ?_
    refine st_p (fun _ => by exact y_indexArr (.plain rfl) (.plain rfl) rfl (by first | omega | (rw [hcl]; omega))) rfl ?_
    refine st_p (fun _ => by exact y_loadRow (f := encCs) (L := ((Sv.idx k).foldl Sv.shut1 rn).1.children) (e := (((Sv.idx k).foldl Sv.shut1 rn).1.children.getD k default)) (fun _ => rfl) (.plain rfl) (by first | exact .here | exact k1 | exact k2 | exact k3 | exact k4 | exact k5 | exact k6 | exact k7 | exact k8 | exact k9 | exact k10 | exact k11 | exact k12 | exact k13) ⟨by rw [hcl]; omega, by rw [List.getD, List.getElem?_eq_getElem (by rw [hcl]; omega), Option.getD_some]⟩) rfl ?_
    refine st_n (fun _ => by exact y_alloc) rfl fun nc => ?_
    refine st_p (fun _ => by exact y_assign (.plain rfl)) rfl ?_
    refine st_s (fun _ => by exact y_storeW (by rfl) rfl (.plain rfl) (.plain rfl) (by first | exact .here | exact u1 | exact u2 | exact u3 | exact u4 | exact u5 | exact u6 | exact u7 | exact u8 | exact u9 | exact u10 | exact u11 | exact u12 | exact u13) (by rfl)) ?_
    refine aops_nil ?_
    refine awp_seq ?_
    refine awp_region ?_
    refine st_p (fun _ => by exact y_fieldPtr (.plain rfl)) rfl ?_
    refine st_p (fun _ => by exact y_load (.plain rfl) (by first | exact .here | exact k1 | exact k2 | exact k3 | exact k4 | exact k5 | exact k6 | exact k7 | exact k8 | exact k9 | exact k10 | exact k11 | exact k12 | exact k13) rfl) rfl ?_
    refine st_p (fun _ => by exact y_eql (.plain rfl) (.plain rfl)) rfl ?_
    refine aops_nil ?_
    refine awp_cond rfl (fun h2 => ?_) (fun h2 => ?_)
    · skip
      try simp only [decide_eq_true_eq, decide_eq_false_iff_not, Bool.not_eq_true', Bool.not_eq_false', Bool.not_eq_true, Bool.not_eq_false, List.length_map, Int.ofNat_lt, Int.ofNat_le, Bool.or_eq_true, Bool.and_eq_true, Bool.or_eq_false_iff, Bool.and_eq_false_iff] at h2
      refine awp_region ?_
      refine st_p (fun _ => by exact y_move (.plain rfl)) rfl ?_
      refine st_p (fun _ => by exact y_move (.plain rfl)) rfl ?_
      refine aops_call (blt_lt rfl) (.plain rfl) (.cons (.plain rfl) (.cons (.plain rfl) (.cons (.plain rfl) .nil))) (ACalls.updP (by apply Takes.cons (by first | exact .here | exact k1 | exact k2 | exact k3 | exact k4 | exact k5 | exact k6 | exact k7 | exact k8 | exact k9 | exact k10 | exact k11 | exact k12 | exact k13); apply Takes.cons (by first | exact .here | exact k1 | exact k2 | exact k3 | exact k4 | exact k5 | exact k6 | exact k7 | exact k8 | exact k9 | exact k10 | exact k11 | exact k12 | exact k13); apply Takes.cons (by first | exact .here | exact k1 | exact k2 | exact k3 | exact k4 | exact k5 | exact k6 | exact k7 | exact k8 | exact k9 | exact k10 | exact k11 | exact k12 | exact k13); exact .nil _) (setR_c r j q t pad ((Sv.idx k).foldl Sv.shut1 rn) tk (k : Int) 3 (by rw [hcl]; omega)) ?_)
      rintro v st rfl
      refine aops_nil ?_
      refine awp_region ?_
      refine st_p (fun _ => by exact y_add (.plain rfl) (.plain rfl) (by first | omega | (simp; omega) | (simp at hc; omega) | (simp at hc ⊢; omega) | (simp; done))) rfl ?_
      refine st_p (fun _ => by exact y_move (.plain rfl)) rfl ?_
      refine aops_nil ?_
      have e1 : Sv.shut1 ((Sv.idx k).foldl Sv.shut1 rn) (k : Int) = Sv.set ((Sv.idx k).foldl Sv.shut1 rn) (k : Int) 3 := if_pos h2
      refine ⟨(k + 1, tk), ⟨by show k + 1 ≤ _; omega, trivial⟩, by show rn.1.children.length - (k + 1) < rn.1.children.length - k; omega, ?_⟩
      dsimp only
      rw [Sv.idx_fold, e1]
      exact Weak.of2 (by (repeat (first | exact .nil _ | refine .cons rfl (by first | exact AV.Imp.refl _ | exact Sl.imp | exact AV.Imp.agg RowOf.imp | exact AV.Imp.grow_sl | exact AV.Imp.nil_grow | exact AV.Imp.full_grow | exact AV.Imp.own_grow | exact AV.Imp.grow_of rfl | exact AV.Imp.sl_of rfl | exact AV.Imp.int_of (by omega) | exact AV.Imp.of_eq (by first | omega | simpa)) ?_)); done) (by (repeat (first | exact .refl _ | exact .nil _ | apply ItLe2.cons (by first | exact .here | exact k1 | exact k2 | exact k3 | exact k4 | exact k5 | exact k6 | exact k7 | exact k8 | exact k9 | exact k10 | exact k11 | exact k12 | exact k13) | apply ItLe2.cells (by first | exact .here | exact k1 | exact k2 | exact k3 | exact k4 | exact k5 | exact k6 | exact k7 | exact k8 | exact k9 | exact k10 | exact k11 | exact k12 | exact k13) (by repeat (first | exact .nil | refine .cons (by first | exact AV.Imp.refl _ | exact Sl.imp | exact AV.Imp.agg RowOf.imp | exact AV.Imp.grow_sl | exact AV.Imp.nil_grow | exact AV.Imp.full_grow | exact AV.Imp.own_grow | exact AV.Imp.grow_of rfl | exact AV.Imp.sl_of rfl | exact AV.Imp.int_of (by omega) | exact AV.Imp.of_eq (by first | omega | simpa)) ?_)) | apply ItLe2.tail0)); done)
    · skip
      try simp only [decide_eq_true_eq, decide_eq_false_iff_not, Bool.not_eq_true', Bool.not_eq_false', Bool.not_eq_true, Bool.not_eq_false, List.length_map, Int.ofNat_lt, Int.ofNat_le, Bool.or_eq_true, Bool.and_eq_true, Bool.or_eq_false_iff, Bool.and_eq_false_iff] at h2
      refine awp_skip ?_
      refine awp_region ?_
      refine st_p (fun _ => by exact y_add (.plain rfl) (.plain rfl) (by first | omega | (simp; omega) | (simp at hc; omega) | (simp at hc ⊢; omega) | (simp; done))) rfl ?_
      refine st_p (fun _ => by exact y_move (.plain rfl)) rfl ?_
      refine aops_nil ?_
      have e1 : Sv.shut1 ((Sv.idx k).foldl Sv.shut1 rn) (k : Int) = ((Sv.idx k).foldl Sv.shut1 rn) := if_neg h2
      refine ⟨(k + 1, tk), ⟨by show k + 1 ≤ _; omega, trivial⟩, by show rn.1.children.length - (k + 1) < rn.1.children.length - k; omega, ?_⟩
      dsimp only
      rw [Sv.idx_fold, e1]
      exact Weak.of2 (by (repeat (first | exact .nil _ | refine .cons rfl (by first | exact AV.Imp.refl _ | exact Sl.imp | exact AV.Imp.agg RowOf.imp | exact AV.Imp.grow_sl | exact AV.Imp.nil_grow | exact AV.Imp.full_grow | exact AV.Imp.own_grow | exact AV.Imp.grow_of rfl | exact AV.Imp.sl_of rfl | exact AV.Imp.int_of (by omega) | exact AV.Imp.of_eq (by first | omega | simpa)) ?_)); done) (by (repeat (first | exact .refl _ | exact .nil _ | apply ItLe2.cons (by first | exact .here | exact k1 | exact k2 | exact k3 | exact k4 | exact k5 | exact k6 | exact k7 | exact k8 | exact k9 | exact k10 | exact k11 | exact k12 | exact k13) | apply ItLe2.cells (by first | exact .here | exact k1 | exact k2 | exact k3 | exact k4 | exact k5 | exact k6 | exact k7 | exact k8 | exact k9 | exact k10 | exact k11 | exact k12 | exact k13) (by repeat (first | exact .nil | refine .cons (by first | exact AV.Imp.refl _ | exact Sl.imp | exact AV.Imp.agg RowOf.imp | exact AV.Imp.grow_sl | exact AV.Imp.nil_grow | exact AV.Imp.full_grow | exact AV.Imp.own_grow | exact AV.Imp.grow_of rfl | exact AV.Imp.sl_of rfl | exact AV.Imp.int_of (by omega) | exact AV.Imp.of_eq (by first | omega | simpa)) ?_)) | apply ItLe2.tail0)); done)
  · skip
    try simp only [decide_eq_true_eq, decide_eq_false_iff_not, Bool.not_eq_true', Bool.not_eq_false', Bool.not_eq_true, Bool.not_eq_false, List.length_map, Int.ofNat_lt, Int.ofNat_le, Bool.or_eq_true, Bool.and_eq_true, Bool.or_eq_false_iff, Bool.and_eq_false_iff] at h1
    refine awp_exit ?_
    refine awp_seq ?_
    obtain rfl : k = rn.1.children.length := by omega
    refine awp_region ?_
    refine st_p (fun _ => by exact y_move (.plain rfl)) rfl ?_
    refine st_p (fun _ => by exact y_move (.plain rfl)) rfl ?_
    refine aops_call (blt_lt rfl) (.plain rfl) (.cons (.plain rfl) .nil) (ACalls.updP (by apply Takes.cons (by first | exact .here | exact k1 | exact k2 | exact k3 | exact k4 | exact k5 | exact k6 | exact k7 | exact k8 | exact k9 | exact k10 | exact k11 | exact k12 | exact k13); apply Takes.cons (by first | exact .here | exact k1 | exact k2 | exact k3 | exact k4 | exact k5 | exact k6 | exact k7 | exact k8 | exact k9 | exact k10 | exact k11 | exact k12 | exact k13); apply Takes.cons (by first | exact .here | exact k1 | exact k2 | exact k3 | exact k4 | exact k5 | exact k6 | exact k7 | exact k8 | exact k9 | exact k10 | exact k11 | exact k12 | exact k13); exact .nil _) (all_c r j q t pad ((Sv.idx rn.1.children.length).foldl Sv.shut1 rn) tk (by omega)) ?_)
    rintro v st ⟨rfl, rfl⟩
    refine aops_call (blt_lt rfl) (.plain rfl) (.cons (.plain rfl) (.cons (.imp (.plain rfl) (AV.Imp.of_eq (by rw [hcl]))) .nil)) (ACalls.updP (by apply Takes.cons (by first | exact .here | exact k1 | exact k2 | exact k3 | exact k4 | exact k5 | exact k6 | exact k7 | exact k8 | exact k9 | exact k10 | exact k11 | exact k12 | exact k13); apply Takes.cons (by first | exact .here | exact k1 | exact k2 | exact k3 | exact k4 | exact k5 | exact k6 | exact k7 | exact k8 | exact k9 | exact k10 | exact k11 | exact k12 | exact k13); apply Takes.cons (by first | exact .here | exact k1 | exact k2 | exact k3 | exact k4 | exact k5 | exact k6 | exact k7 | exact k8 | exact k9 | exact k10 | exact k11 | exact k12 | exact k13); exact .nil _) (stop_c r j q t pad ((Sv.idx rn.1.children.length).foldl Sv.shut1 rn) tk (Sv.idx rn.1.children.length) (by rw [Sv.idx_len]; omega) (fun i hi => by rw [hcl]; exact Sv.idx_mem hi) (by omega)) ?_)
    rintro v st ⟨tk2, rfl⟩
    have hsl : (Sv.stop t ((Sv.idx rn.1.children.length).foldl Sv.shut1 rn) (Sv.idx rn.1.children.length)).1.children.length = rn.1.children.length := (Sv.fold_len _ (Sv.stop1_len t) _ _).trans hcl
    have hso : (Sv.stop t ((Sv.idx rn.1.children.length).foldl Sv.shut1 rn) (Sv.idx rn.1.children.length)).2.length ≤ 20000 := by
      have h := Sv.fold_out _ (Sv.stop1_out t) (Sv.idx rn.1.children.length).reverse ((Sv.idx rn.1.children.length).foldl Sv.shut1 rn)
      rw [List.length_reverse, Sv.idx_len] at h
      exact Nat.le_trans h (by omega)
    refine aops_nil ?_
    refine awp_seq ?_
    refine awp_seq ?_
    refine awp_region ?_
    refine st_p (fun _ => by exact y_move (.plain rfl)) rfl ?_
    first | refine st_p (fun _ => by exact y_nilPtr (.plain rfl)) rfl ?_ | refine st_p (fun _ => by exact y_nilE (.plain rfl)) rfl ?_
    refine st_p (fun _ => by exact y_fieldPtr (.plain rfl)) rfl ?_
    refine st_p (fun _ => by exact y_fieldPtr (.plain rfl)) rfl ?_
    refine st_p (fun _ => by exact y_load (.plain rfl) (by first | exact .here | exact k1 | exact k2 | exact k3 | exact k4 | exact k5 | exact k6 | exact k7 | exact k8 | exact k9 | exact k10 | exact k11 | exact k12 | exact k13) rfl) rfl ?_
    refine aops_call (blt_lt rfl) (.plain rfl) (.cons (.plain rfl) (.cons (.plain rfl) .nil)) (ACalls.then (ACalls.keep (by apply Takes.cons (by first | exact .here | exact k1 | exact k2 | exact k3 | exact k4 | exact k5 | exact k6 | exact k7 | exact k8 | exact k9 | exact k10 | exact k11 | exact k12 | exact k13); exact .nil _) (countA_c j pad (Sv.stop t ((Sv.idx rn.1.children.length).foldl Sv.shut1 rn) (Sv.idx rn.1.children.length)).1.children 2 (by omega))) ?_)
    refine st_p (fun _ => by exact y_gtr (.plain rfl) (.plain rfl)) rfl ?_
    refine aops_nil ?_
    refine awp_cond rfl (fun h3 => ?_) (fun h3 => ?_)
    · skip
      try simp only [decide_eq_true_eq, decide_eq_false_iff_not, Bool.not_eq_true', Bool.not_eq_false', Bool.not_eq_true, Bool.not_eq_false, List.length_map, Int.ofNat_lt, Int.ofNat_le, Bool.or_eq_true, Bool.and_eq_true, Bool.or_eq_false_iff, Bool.and_eq_false_iff] at h3
      refine awp_seq ?_
      refine awp_region ?_
      refine st_p (fun _ => by exact y_move (.plain rfl)) rfl ?_
      first | refine st_p (fun _ => by exact y_nilPtr (.plain rfl)) rfl ?_ | refine st_p (fun _ => by exact y_nilE (.plain rfl)) rfl ?_
      refine st_p (fun _ => by exact y_fieldPtr (.plain rfl)) rfl ?_
      refine st_p (fun _ => by exact y_fieldPtr (.plain rfl)) rfl ?_
      refine st_storeN (cs' := [_, _, _, _, _, _, _, _, _, _]) (by rfl) rfl (.plain rfl) (.plain rfl) (by first | exact .here | exact u1 | exact u2 | exact u3 | exact u4 | exact u5 | exact u6 | exact u7 | exact u8 | exact u9 | exact u10 | exact u11 | exact u12 | exact u13) (le_ rfl) (by rfl) ?_
      refine aops_nil ?_
      refine awp_ret ?_
      have e1 : Sv.shut t rn = ((({ (Sv.stop t ((Sv.idx rn.1.children.length).foldl Sv.shut1 rn) (Sv.idx rn.1.children.length)).1 with status := 3 }, (Sv.stop t ((Sv.idx rn.1.children.length).foldl Sv.shut1 rn) (Sv.idx rn.1.children.length)).2) : Sv.Rn)) := if_pos (by assumption)
      exact retG (.inr rfl) .nil (VShift.of2 (st' := [.cells r [.int (Sv.shut t rn).1.status, .arr j 0 (Sv.shut t rn).1.children.length, .sl 1 ((Sv.shut t rn).1.restarts.map encI), .bool (Sv.shut t rn).1.failed, .int q.strategy, .int q.intensity, .int q.window, .sl 3 (q.children.map encCh), .int t, .grow 4 tk2 ((Sv.shut t rn).2.map encEv)], .cells j (((Sv.shut t rn).1.children.map encCs).flatten ++ pad), .tail tk2]) (AV.Imp.refl _) (by rw [e1]; (repeat (first | exact .refl _ | exact .nil _ | apply ItLe2.cons (by first | exact .here | exact k1 | exact k2 | exact k3 | exact k4 | exact k5 | exact k6 | exact k7 | exact k8 | exact k9 | exact k10 | exact k11 | exact k12 | exact k13) | apply ItLe2.cells (by first | exact .here | exact k1 | exact k2 | exact k3 | exact k4 | exact k5 | exact k6 | exact k7 | exact k8 | exact k9 | exact k10 | exact k11 | exact k12 | exact k13) (by repeat (first | exact .nil | refine .cons (by first | exact AV.Imp.refl _ | exact Sl.imp | exact AV.Imp.agg RowOf.imp | exact AV.Imp.grow_sl | exact AV.Imp.nil_grow | exact AV.Imp.full_grow | exact AV.Imp.own_grow | exact AV.Imp.grow_of rfl | exact AV.Imp.sl_of rfl | exact AV.Imp.int_of (by omega) | exact AV.Imp.of_eq (by first | omega | simpa)) ?_)) | apply ItLe2.tail0)); done)) ⟨tk2, rfl⟩
    · skip
      try simp only [decide_eq_true_eq, decide_eq_false_iff_not, Bool.not_eq_true', Bool.not_eq_false', Bool.not_eq_true, Bool.not_eq_false, List.length_map, Int.ofNat_lt, Int.ofNat_le, Bool.or_eq_true, Bool.and_eq_true, Bool.or_eq_false_iff, Bool.and_eq_false_iff] at h3
      refine awp_skip ?_
      refine awp_region ?_
      refine st_p (fun _ => by exact y_move (.plain rfl)) rfl ?_
      refine aops_call (blt_lt rfl) (.plain rfl) (.cons (.plain rfl) .nil) (ACalls.updP (by apply Takes.cons (by first | exact .here | exact k1 | exact k2 | exact k3 | exact k4 | exact k5 | exact k6 | exact k7 | exact k8 | exact k9 | exact k10 | exact k11 | exact k12 | exact k13); apply Takes.cons (by first | exact .here | exact k1 | exact k2 | exact k3 | exact k4 | exact k5 | exact k6 | exact k7 | exact k8 | exact k9 | exact k10 | exact k11 | exact k12 | exact k13); apply Takes.cons (by first | exact .here | exact k1 | exact k2 | exact k3 | exact k4 | exact k5 | exact k6 | exact k7 | exact k8 | exact k9 | exact k10 | exact k11 | exact k12 | exact k13); exact .nil _) (ended_c r j q t pad (Sv.stop t ((Sv.idx rn.1.children.length).foldl Sv.shut1 rn) (Sv.idx rn.1.children.length)) tk2 (by omega)) ?_)
      rintro v st ⟨tk3, rfl⟩
      refine aops_nil ?_
      have e1 : Sv.shut t rn = Sv.ended t (Sv.stop t ((Sv.idx rn.1.children.length).foldl Sv.shut1 rn) (Sv.idx rn.1.children.length)) := if_neg (by assumption)
      exact retG (.inl rfl) .nil (VShift.of2 (st' := [.cells r [.int (Sv.shut t rn).1.status, .arr j 0 (Sv.shut t rn).1.children.length, .sl 1 ((Sv.shut t rn).1.restarts.map encI), .bool (Sv.shut t rn).1.failed, .int q.strategy, .int q.intensity, .int q.window, .sl 3 (q.children.map encCh), .int t, .grow 4 tk3 ((Sv.shut t rn).2.map encEv)], .cells j (((Sv.shut t rn).1.children.map encCs).flatten ++ pad), .tail tk3]) (AV.Imp.refl _) (by rw [e1]; (repeat (first | exact .refl _ | exact .nil _ | apply ItLe2.cons (by first | exact .here | exact k1 | exact k2 | exact k3 | exact k4 | exact k5 | exact k6 | exact k7 | exact k8 | exact k9 | exact k10 | exact k11 | exact k12 | exact k13) | apply ItLe2.cells (by first | exact .here | exact k1 | exact k2 | exact k3 | exact k4 | exact k5 | exact k6 | exact k7 | exact k8 | exact k9 | exact k10 | exact k11 | exact k12 | exact k13) (by repeat (first | exact .nil | refine .cons (by first | exact AV.Imp.refl _ | exact Sl.imp | exact AV.Imp.agg RowOf.imp | exact AV.Imp.grow_sl | exact AV.Imp.nil_grow | exact AV.Imp.full_grow | exact AV.Imp.own_grow | exact AV.Imp.grow_of rfl | exact AV.Imp.sl_of rfl | exact AV.Imp.int_of (by omega) | exact AV.Imp.of_eq (by first | omega | simpa)) ?_)) | apply ItLe2.tail0)); done)) ⟨tk3, rfl⟩

end Go.Proofs
