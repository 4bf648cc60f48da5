/- The supervisor handles an event. -/
import Derived.Test.YtjjgchblmejooaaE57
set_option linter.unusedVariables false
set_option linter.unusedSimpArgs false
set_option maxRecDepth 10000
namespace Go.Proofs
open Go.Aw Wl Sv
theorem running_c (r j : Nat) (q : Sv.Spc) (t : Int) (pad : List AV) (rn : Sv.Rn) (tok : Option Nat) (hqc : q.children.length = rn.1.children.length) (hn : rn.1.children.length ≤ 16) (ho : rn.2.length ≤ 1000) (hsb : Sv.Sb rn) (hrl : rn.1.restarts.length ≤ 1000) (ht : 0 ≤ t ∧ t ≤ 1099511627776) (hw : 0 ≤ q.window ∧ q.window ≤ 1099511627776) (c : Int) (hc : 0 ≤ c ∧ c < rn.1.children.length) (re : Int) : ACalls Try.prog 29 [.ptr r 0, .int c, .int re] [.cells r [.int rn.1.status, .arr j 0 rn.1.children.length, .sl 1 (rn.1.restarts.map encI), .bool rn.1.failed, .int q.strategy, .int q.intensity, .int q.window, .sl 3 (q.children.map encCh), .int t, .grow 4 tok (rn.2.map encEv)], .cells j ((rn.1.children.map encCs).flatten ++ pad), .tail tok] (fun y st => ∃ tk, st = [.cells r [.int (Sv.running q t rn c re).1.status, .arr j 0 (Sv.running q t rn c re).1.children.length, .sl 1 ((Sv.running q t rn c re).1.restarts.map encI), .bool (Sv.running q t rn c re).1.failed, .int q.strategy, .int q.intensity, .int q.window, .sl 3 (q.children.map encCh), .int t, .grow 4 tk ((Sv.running q t rn c re).2.map encEv)], .cells j (((Sv.running q t rn c re).1.children.map encCs).flatten ++ pad), .tail tk]) := by
  refine acalls_body Try.func29 (by kernel_rfl) rfl Try.ntmps29 (le_ rfl) ?_
  rw [Try.results29]
  have hrc : (Sv.recent q rn.1.restarts t).length ≤ rn.1.restarts.length := List.length_filter_le _ _
  refine awp_seq ?_
  refine awp_region ?_
  refine st_p (fun _ => by exact y_move (.plain rfl)) rfl ?_
  first | refine st_p (fun _ => by exact y_nilPtr (.plain rfl)) rfl ?_ | refine st_p (fun _ => by exact y_nilE (.plain rfl)) rfl ?_
  refine st_p (fun _ => by exact y_fieldPtr (.plain rfl)) rfl ?_
  refine st_p (fun _ => by exact y_fieldPtr (.plain rfl)) rfl ?_
  refine st_p (fun _ => by exact y_load (.plain rfl) (by first | exact .here | exact k1 | exact k2 | exact k3 | exact k4 | exact k5 | exact k6 | exact k7 | exact k8 | exact k9 | exact k10 | exact k11 | exact k12 | exact k13) rfl) rfl ?_
  refine st_p (fun _ => by exact y_move (.plain rfl)) rfl ?_
  first | refine st_p (fun _ => by exact y_indexMap (.plain rfl) (.plain rfl) rfl (by refine ⟨?_, ?_⟩; (first | omega | (simp; omega) | (simp at hc; omega) | (simp at hc ⊢; omega) | (simp; done)); rfl)) rfl ?_ | refine st_p (fun _ => by exact y_indexT (.plain rfl) (.plain rfl) (by first | omega | (simp; omega) | (simp at hc; omega) | (simp at hc ⊢; omega) | (simp; done)) (by first | omega | (simp; omega) | (simp at hc; omega) | (simp at hc ⊢; omega) | (simp; done))) rfl ?_ | refine st_p (fun _ => by exact y_index (.plain rfl) (.plain rfl) (by omega) rfl) rfl ?_ | refine st_p (fun _ => by exact y_indexArr (.plain rfl) (.plain rfl) rfl (by first | omega | (simp; omega) | (simp at hc; omega) | (simp at hc ⊢; omega) | (simp; done))) rfl ?_
  refine st_p (fun _ => by exact y_fieldE (.plain rfl) (le_ rfl)) rfl ?_
  refine st_p (fun _ => by exact y_loadE (.plain rfl) rfl) rfl ?_
  refine st_p (fun _ => by exact y_assign (.plain rfl)) rfl ?_
  refine aops_nil ?_
  refine awp_seq ?_
  refine awp_seq ?_
  refine awp_region ?_
  refine st_p (fun _ => by exact y_move (.plain rfl)) rfl ?_
  refine st_p (fun _ => by exact y_eql (.plain rfl) (.plain rfl)) rfl ?_
  refine st_p (fun _ => by exact y_move (.plain rfl)) rfl ?_
  refine st_g rfl rfl rfl SaysI.out (fun hc _ => by exact y_move (.plain rfl)) rfl ?_
  refine st_g rfl rfl rfl SaysI.out (fun hc _ => by exact y_eql (.opt rfl hc) (.plain rfl)) rfl ?_
  refine st_g rfl rfl rfl SaysI.out (fun hc _ => by exact y_move (.opt rfl hc)) rfl ?_
  refine st_g rfl rfl rfl SaysI.out (fun hc _ => by exact y_move (.plain rfl)) rfl ?_
  refine st_g rfl rfl rfl SaysI.out (fun hc _ => by exact y_call (.plain rfl) (.cons (.opt rfl hc) .nil) (ACalls.pure (isNormal_c _))) rfl ?_
  first | refine st_g rfl rfl rfl SaysI.out (fun hc _ => by exact y_and' hc (.opt rfl hc) rfl rfl) rfl ?_ | refine st_g rfl rfl rfl SaysI.out (fun hc _ => by exact y_and (.opt rfl hc) rfl rfl) rfl ?_
  refine st_p (fun _ => by exact y_or (.plain rfl) rfl rfl) rfl ?_
  refine aops_nil ?_
  refine awp_cond rfl (fun h1 => ?_) (fun h1 => ?_)
  · skip
    try simp only [decide_eq_true_eq, decide_eq_false_iff_not, Bool.not_eq_true', Bool.not_eq_false', Bool.not_eq_true, Bool.not_eq_false, List.length_map, Int.ofNat_lt, Int.ofNat_le, Bool.or_eq_true, Bool.and_eq_true, Bool.or_eq_false_iff, Bool.and_eq_false_iff] at h1
    have hpol : Sv.polic q c = 3 ∨ (Sv.polic q c = 2 ∧ Sv.isNormal re = true) := by simpa [Sv.polic] using h1
    refine awp_seq ?_
    refine awp_region ?_
    refine st_p (fun _ => by exact y_move (.plain rfl)) rfl ?_
    refine st_p (fun _ => by exact y_move (.plain rfl)) rfl ?_
    refine aops_call (blt_lt rfl) (.plain rfl) (.cons (.plain rfl) (.cons (.plain rfl) (.cons (.plain rfl) .nil))) (ACalls.updP (by apply Takes.cons (by first | exact .here | exact k1 | exact k2 | exact k3 | exact k4 | exact k5 | exact k6 | exact k7 | exact k8 | exact k9 | exact k10 | exact k11 | exact k12 | exact k13); apply Takes.cons (by first | exact .here | exact k1 | exact k2 | exact k3 | exact k4 | exact k5 | exact k6 | exact k7 | exact k8 | exact k9 | exact k10 | exact k11 | exact k12 | exact k13); apply Takes.cons (by first | exact .here | exact k1 | exact k2 | exact k3 | exact k4 | exact k5 | exact k6 | exact k7 | exact k8 | exact k9 | exact k10 | exact k11 | exact k12 | exact k13); exact .nil _) (setR_c r j q t pad rn tok c 3 hc) ?_)
    rintro v st rfl
    refine aops_nil ?_
    refine awp_ret ?_
    have e1 : Sv.running q t rn c re = Sv.set rn c 3 := if_pos hpol
    exact retG (.inr rfl) .nil (VShift.of2 (st' := [.cells r [.int (Sv.running q t rn c re).1.status, .arr j 0 (Sv.running q t rn c re).1.children.length, .sl 1 ((Sv.running q t rn c re).1.restarts.map encI), .bool (Sv.running q t rn c re).1.failed, .int q.strategy, .int q.intensity, .int q.window, .sl 3 (q.children.map encCh), .int t, .grow 4 tok ((Sv.running q t rn c re).2.map encEv)], .cells j (((Sv.running q t rn c re).1.children.map encCs).flatten ++ pad), .tail tok]) (AV.Imp.refl _) (by rw [e1]; (repeat (first | exact .refl _ | exact .nil _ | apply ItLe2.cons (by first | exact .here | exact k1 | exact k2 | exact k3 | exact k4 | exact k5 | exact k6 | exact k7 | exact k8 | exact k9 | exact k10 | exact k11 | exact k12 | exact k13) | apply ItLe2.cells (by first | exact .here | exact k1 | exact k2 | exact k3 | exact k4 | exact k5 | exact k6 | exact k7 | exact k8 | exact k9 | exact k10 | exact k11 | exact k12 | exact k13) (by repeat (first | exact .nil | refine .cons (by first | exact AV.Imp.refl _ | exact Sl.imp | exact AV.Imp.agg RowOf.imp | exact AV.Imp.grow_sl | exact AV.Imp.nil_grow | exact AV.Imp.full_grow | exact AV.Imp.own_grow | exact AV.Imp.grow_of rfl | exact AV.Imp.sl_of rfl | exact AV.Imp.int_of (by omega) | exact AV.Imp.of_eq (by first | omega | simpa)) ?_)) | apply ItLe2.tail0)); done)) ⟨tok, rfl⟩
  · skip
    try simp only [decide_eq_true_eq, decide_eq_false_iff_not, Bool.not_eq_true', Bool.not_eq_false', Bool.not_eq_true, Bool.not_eq_false, List.length_map, Int.ofNat_lt, Int.ofNat_le, Bool.or_eq_true, Bool.and_eq_true, Bool.or_eq_false_iff, Bool.and_eq_false_iff] at h1
    have hpol : ¬ (Sv.polic q c = 3 ∨ (Sv.polic q c = 2 ∧ Sv.isNormal re = true)) := by
      rintro (h | ⟨h, h9⟩)
      · simp_all [Sv.polic]
      · simp_all [Sv.polic]
    refine awp_skip ?_
    refine awp_seq ?_
    rcases Classical.em (rn.1.restarts = []) with hq0 | hq0
    · skip
      refine awp_anyT (ks := [.free, .free, .free, .free, .free, .free, .free, .free, .free, .free, .free, .free, .free, .free, .free]) [] (.nil _) (by kernel_rfl) (fun K => ?_) ?_
      · skip
        refine dr_p (fun _ => by exact y_move (.plain rfl)) rfl ?_
        first | refine dr_p (fun _ => by exact y_nilPtr (.plain rfl)) rfl ?_ | refine dr_p (fun _ => by exact y_nilE (.plain rfl)) rfl ?_
        refine dr_p (fun _ => by exact y_fieldPtr (.plain rfl)) rfl ?_
        refine dr_p (fun _ => by exact y_loadAggN (cs' := [_, _, _, _]) (.plain rfl) (by first | exact .here | exact k1 | exact k2 | exact k3 | exact k4 | exact k5 | exact k6 | exact k7 | exact k8 | exact k9 | exact k10 | exact k11 | exact k12 | exact k13) (le_ rfl) (by rfl)) rfl ?_
        refine dr_p (fun _ => by exact y_move (.plain rfl)) rfl ?_
        first | refine dr_p (fun _ => by exact y_nilPtr (.plain rfl)) rfl ?_ | refine dr_p (fun _ => by exact y_nilE (.plain rfl)) rfl ?_
        refine dr_p (fun _ => by exact y_fieldPtr (.plain rfl)) rfl ?_
        refine dr_p (fun _ => by exact y_fieldPtr (.plain rfl)) rfl ?_
        refine dr_p (fun _ => by exact y_load (.plain rfl) (by first | exact .here | exact k1 | exact k2 | exact k3 | exact k4 | exact k5 | exact k6 | exact k7 | exact k8 | exact k9 | exact k10 | exact k11 | exact k12 | exact k13) rfl) rfl ?_
        refine dr_p (fun _ => by exact y_move (.plain rfl)) rfl ?_
        first | refine dr_p (fun _ => by exact y_nilPtr (.plain rfl)) rfl ?_ | refine dr_p (fun _ => by exact y_nilE (.plain rfl)) rfl ?_
        refine dr_p (fun _ => by exact y_fieldPtr (.plain rfl)) rfl ?_
        refine dr_p (fun _ => by exact y_load (.plain rfl) (by first | exact .here | exact k1 | exact k2 | exact k3 | exact k4 | exact k5 | exact k6 | exact k7 | exact k8 | exact k9 | exact k10 | exact k11 | exact k12 | exact k13) rfl) rfl ?_
        refine dr_p (fun _ => by exact y_call (.plain rfl) (.cons (.plain rfl) (.cons (.plain rfl) (.cons (.plain rfl) .nil))) (ACalls.pure (recent0_c q rn.1.restarts hq0 t ht hw))) rfl ?_
        refine dr_p (fun _ => by exact y_assign (.plain rfl)) rfl ?_
        refine dr_nil ?_
        refine awp_seq ?_
        refine awp_seq ?_
        refine awp_region ?_
        refine st_p (fun _ => by exact y_move (.plain rfl)) rfl ?_
        first | refine st_p (fun _ => by exact y_lenN (.plain rfl)) rfl ?_ | refine st_p (fun _ => by exact y_len (.plain rfl)) rfl ?_ | refine st_p (fun _ => by exact y_lenArr (.plain rfl)) rfl ?_ | refine st_p (fun _ => by exact y_vlen (.plain rfl)) rfl ?_ | refine st_p (fun _ => by exact y_strLen (by rfl) (.plain rfl)) rfl ?_
        refine st_p (fun _ => by exact y_move (.plain rfl)) rfl ?_
        first | refine st_p (fun _ => by exact y_nilPtr (.plain rfl)) rfl ?_ | refine st_p (fun _ => by exact y_nilE (.plain rfl)) rfl ?_
        refine st_p (fun _ => by exact y_fieldPtr (.plain rfl)) rfl ?_
        refine st_p (fun _ => by exact y_fieldPtr (.plain rfl)) rfl ?_
        refine st_p (fun _ => by exact y_load (.plain rfl) (by first | exact .here | exact k1 | exact k2 | exact k3 | exact k4 | exact k5 | exact k6 | exact k7 | exact k8 | exact k9 | exact k10 | exact k11 | exact k12 | exact k13) rfl) rfl ?_
        refine st_p (fun _ => by exact y_geq (.plain rfl) (.plain rfl)) rfl ?_
        refine aops_nil ?_
        refine awp_cond rfl (fun h2 => ?_) (fun h2 => ?_)
        · skip
          try simp only [decide_eq_true_eq, decide_eq_false_iff_not, Bool.not_eq_true', Bool.not_eq_false', Bool.not_eq_true, Bool.not_eq_false, List.length_map, Int.ofNat_lt, Int.ofNat_le, Bool.or_eq_true, Bool.and_eq_true, Bool.or_eq_false_iff, Bool.and_eq_false_iff] at h2
          have hrec : (Sv.recent q rn.1.restarts t) = [] := by rw [hq0]; rfl
          have hint : q.intensity ≤ ((Sv.recent q rn.1.restarts t).length : Int) := by rw [hrec]; simpa using h2
          refine awp_seq ?_
          refine awp_region ?_
          refine st_p (fun _ => by exact y_move (.plain rfl)) rfl ?_
          refine st_p (fun _ => by exact y_move (.plain rfl)) rfl ?_
          refine aops_call (blt_lt rfl) (.plain rfl) (.cons (.plain rfl) (.cons (.plain rfl) (.cons (.plain rfl) .nil))) (ACalls.updP (by apply Takes.cons (by first | exact .here | exact k1 | exact k2 | exact k3 | exact k4 | exact k5 | exact k6 | exact k7 | exact k8 | exact k9 | exact k10 | exact k11 | exact k12 | exact k13); apply Takes.cons (by first | exact .here | exact k1 | exact k2 | exact k3 | exact k4 | exact k5 | exact k6 | exact k7 | exact k8 | exact k9 | exact k10 | exact k11 | exact k12 | exact k13); apply Takes.cons (by first | exact .here | exact k1 | exact k2 | exact k3 | exact k4 | exact k5 | exact k6 | exact k7 | exact k8 | exact k9 | exact k10 | exact k11 | exact k12 | exact k13); exact .nil _) (setR_c r j q t pad rn tok c 3 hc) ?_)
          rintro v st rfl
          refine aops_nil ?_
          refine awp_seq ?_
          refine awp_region ?_
          refine st_p (fun _ => by exact y_move (.plain rfl)) rfl ?_
          first | refine st_p (fun _ => by exact y_nilPtr (.plain rfl)) rfl ?_ | refine st_p (fun _ => by exact y_nilE (.plain rfl)) rfl ?_
          refine st_p (fun _ => by exact y_fieldPtr (.plain rfl)) rfl ?_
          refine st_p (fun _ => by exact y_fieldPtr (.plain rfl)) rfl ?_
          refine st_storeN (cs' := [_, _, _, _, _, _, _, _, _, _]) (by rfl) rfl (.plain rfl) (.plain rfl) (by first | exact .here | exact u1 | exact u2 | exact u3 | exact u4 | exact u5 | exact u6 | exact u7 | exact u8 | exact u9 | exact u10 | exact u11 | exact u12 | exact u13) (le_ rfl) (by rfl) ?_
          refine aops_nil ?_
          refine awp_seq ?_
          refine awp_region ?_
          refine st_p (fun _ => by exact y_move (.plain rfl)) rfl ?_
          refine aops_call (blt_lt rfl) (.plain rfl) (.cons (.plain rfl) .nil) (ACalls.updP (by apply Takes.cons (by first | exact .here | exact k1 | exact k2 | exact k3 | exact k4 | exact k5 | exact k6 | exact k7 | exact k8 | exact k9 | exact k10 | exact k11 | exact k12 | exact k13); apply Takes.cons (by first | exact .here | exact k1 | exact k2 | exact k3 | exact k4 | exact k5 | exact k6 | exact k7 | exact k8 | exact k9 | exact k10 | exact k11 | exact k12 | exact k13); apply Takes.cons (by first | exact .here | exact k1 | exact k2 | exact k3 | exact k4 | exact k5 | exact k6 | exact k7 | exact k8 | exact k9 | exact k10 | exact k11 | exact k12 | exact k13); exact .nil _) (shut_c r j q t pad ((({ (Sv.set rn c 3).1 with failed := true }, rn.2) : Sv.Rn)) tok (by show (Sv.setL rn.1.children c 3).length ≤ _; rw [Sv.setL, List.length_set]; omega) (by show rn.2.length ≤ _; omega)) ?_)
          rintro v st ⟨tk1, rfl⟩
          refine aops_nil ?_
          refine awp_ret ?_
          have e1 : Sv.running q t rn c re = Sv.shut t ((({ (Sv.set rn c 3).1 with failed := true }, rn.2) : Sv.Rn)) := (if_neg hpol).trans (if_pos hint)
          exact retG (.inr rfl) .nil (VShift.of2 (st' := [.cells r [.int (Sv.running q t rn c re).1.status, .arr j 0 (Sv.running q t rn c re).1.children.length, .sl 1 ((Sv.running q t rn c re).1.restarts.map encI), .bool (Sv.running q t rn c re).1.failed, .int q.strategy, .int q.intensity, .int q.window, .sl 3 (q.children.map encCh), .int t, .grow 4 tk1 ((Sv.running q t rn c re).2.map encEv)], .cells j (((Sv.running q t rn c re).1.children.map encCs).flatten ++ pad), .tail tk1]) (AV.Imp.refl _) (by rw [e1]; (repeat (first | exact .refl _ | exact .nil _ | apply ItLe2.cons (by first | exact .here | exact k1 | exact k2 | exact k3 | exact k4 | exact k5 | exact k6 | exact k7 | exact k8 | exact k9 | exact k10 | exact k11 | exact k12 | exact k13) | apply ItLe2.cells (by first | exact .here | exact k1 | exact k2 | exact k3 | exact k4 | exact k5 | exact k6 | exact k7 | exact k8 | exact k9 | exact k10 | exact k11 | exact k12 | exact k13) (by repeat (first | exact .nil | refine .cons (by first | exact AV.Imp.refl _ | exact Sl.imp | exact AV.Imp.agg RowOf.imp | exact AV.Imp.grow_sl | exact AV.Imp.nil_grow | exact AV.Imp.full_grow | exact AV.Imp.own_grow | exact AV.Imp.grow_of rfl | exact AV.Imp.sl_of rfl | exact AV.Imp.int_of (by omega) | exact AV.Imp.of_eq (by first | omega | simpa)) ?_)) | apply ItLe2.tail0)); done)) ⟨tk1, rfl⟩
        · skip
          try simp only [decide_eq_true_eq, decide_eq_false_iff_not, Bool.not_eq_true', Bool.not_eq_false', Bool.not_eq_true, Bool.not_eq_false, List.length_map, Int.ofNat_lt, Int.ofNat_le, Bool.or_eq_true, Bool.and_eq_true, Bool.or_eq_false_iff, Bool.and_eq_false_iff] at h2
          have hrec : (Sv.recent q rn.1.restarts t) = [] := by rw [hq0]; rfl
          have hint : ¬ q.intensity ≤ ((Sv.recent q rn.1.restarts t).length : Int) := by rw [hrec]; simpa using h2
          refine awp_skip ?_
          refine awp_seq ?_
          refine awp_region ?_
          refine st_p (fun _ => by exact y_move (.plain rfl)) rfl ?_
          refine st_p (fun _ => by exact y_move (.plain rfl)) rfl ?_
          refine st_p (fun _ => by exact y_move (.plain rfl)) rfl ?_
          first | refine st_p (fun _ => by exact y_nilPtr (.plain rfl)) rfl ?_ | refine st_p (fun _ => by exact y_nilE (.plain rfl)) rfl ?_
          refine st_p (fun _ => by exact y_fieldPtr (.plain rfl)) rfl ?_
          refine st_p (fun _ => by exact y_load (.plain rfl) (by first | exact .here | exact k1 | exact k2 | exact k3 | exact k4 | exact k5 | exact k6 | exact k7 | exact k8 | exact k9 | exact k10 | exact k11 | exact k12 | exact k13) rfl) rfl ?_
          refine st_p (fun _ => by exact y_buildSlice (.cons (.plain rfl) inferInstance (by rfl) .nil) rfl (le_ rfl)) rfl ?_
          refine aops_weak (Weak.vec0 []) ?_
          refine st_n (fun _ => by exact y_vappend (xs := []) (by rfl) (by rfl) (.plain rfl) (by rfl) (.plain rfl) (by simp) (by first | (simp; done) | (simp; omega)) (by first | exact .here | exact k1 | exact k2 | exact k3 | exact k4 | exact k5 | exact k6 | exact k7 | exact k8 | exact k9 | exact k10 | exact k11 | exact k12 | exact k13)) rfl fun nv => ?_
          first | refine st_p (fun _ => by exact y_nilPtr (.plain rfl)) rfl ?_ | refine st_p (fun _ => by exact y_nilE (.plain rfl)) rfl ?_
          refine st_p (fun _ => by exact y_fieldPtr (.plain rfl)) rfl ?_
          refine st_p (fun _ => by exact y_fieldPtr (.plain rfl)) rfl ?_
          refine st_storeN (cs' := [_, _, _, _, _, _, _, _, _, _]) (by rfl) rfl (.plain rfl) (.plain rfl) (by first | exact .here | exact u1 | exact u2 | exact u3 | exact u4 | exact u5 | exact u6 | exact u7 | exact u8 | exact u9 | exact u10 | exact u11 | exact u12 | exact u13) (le_ rfl) (by rfl) ?_
          refine aops_nil ?_
          refine awp_seq ?_
          refine awp_items (st' := [.vec (some nv) (((Sv.recent q rn.1.restarts t) ++ [t]).map encI).flatten, .cells r [.int rn.1.status, .arr j 0 rn.1.children.length, .vec 1 (some nv) (0 + 1), .bool rn.1.failed, .int q.strategy, .int q.intensity, .int q.window, .sl 3 (q.children.map encCh), .int t, .grow 4 tok (rn.2.map encEv)], .cells j ((rn.1.children.map encCs).flatten ++ pad), .tail tok]) (by rw [hrec]; rfl) ?_
          refine awp_weak (Weak.freezeV (cs := [.int rn.1.status, .arr j 0 rn.1.children.length, .vec 1 (some nv) (0 + 1), .bool rn.1.failed, .int q.strategy, .int q.intensity, .int q.window, .sl 3 (q.children.map encCh), .int t, .grow 4 tok (rn.2.map encEv)]) (i := 2) (sz := 1) (xs := ((Sv.recent q rn.1.restarts t) ++ [t]).map encI) (by rw [hrec]; rfl) (by intro x hx; obtain ⟨b, _, rfl⟩ := List.mem_map.1 hx; rfl) rfl (.cons .here (.cons .here (.nil _)))) ?_
          refine awp_region ?_
          refine st_p (fun _ => by exact y_move (.plain rfl)) rfl ?_
          refine st_p (fun _ => by exact y_move (.plain rfl)) rfl ?_
          refine aops_call (blt_lt rfl) (.plain rfl) (.cons (.plain rfl) (.cons (.plain rfl) (.cons (.plain rfl) .nil))) (ACalls.updP (by apply Takes.cons (by first | exact .here | exact k1 | exact k2 | exact k3 | exact k4 | exact k5 | exact k6 | exact k7 | exact k8 | exact k9 | exact k10 | exact k11 | exact k12 | exact k13); apply Takes.cons (by first | exact .here | exact k1 | exact k2 | exact k3 | exact k4 | exact k5 | exact k6 | exact k7 | exact k8 | exact k9 | exact k10 | exact k11 | exact k12 | exact k13); apply Takes.cons (by first | exact .here | exact k1 | exact k2 | exact k3 | exact k4 | exact k5 | exact k6 | exact k7 | exact k8 | exact k9 | exact k10 | exact k11 | exact k12 | exact k13); exact .nil _) (setR_c r j q t pad ((({ rn.1 with restarts := (Sv.recent q rn.1.restarts t) ++ [t] }, rn.2) : Sv.Rn)) tok c 4 hc) ?_)
          rintro v st rfl
          refine aops_nil ?_
          refine awp_seq ?_
          refine awp_region ?_
          refine st_p (fun _ => by exact y_move (.plain rfl)) rfl ?_
          refine st_p (fun _ => by exact y_move (.plain rfl)) rfl ?_
          first | refine st_p (fun _ => by exact y_nilPtr (.plain rfl)) rfl ?_ | refine st_p (fun _ => by exact y_nilE (.plain rfl)) rfl ?_
          refine st_p (fun _ => by exact y_fieldPtr (.plain rfl)) rfl ?_
          refine st_p (fun _ => by exact y_loadAggN (cs' := [_, _, _, _]) (.plain rfl) (by first | exact .here | exact k1 | exact k2 | exact k3 | exact k4 | exact k5 | exact k6 | exact k7 | exact k8 | exact k9 | exact k10 | exact k11 | exact k12 | exact k13) (le_ rfl) (by rfl)) rfl ?_
          refine st_p (fun _ => by exact y_move (.plain rfl)) rfl ?_
          refine aops_call (blt_lt rfl) (.plain rfl) (.cons (.imp (.plain rfl) (AV.Imp.agg (RowOf.imp (enc := encSp)))) (.cons (.plain rfl) .nil)) (ACalls.here (affected_c q c (by omega) (by omega)) ?_)
          refine aops_call (blt_lt rfl) (.plain rfl) (.cons (.plain rfl) (.cons (.plain rfl) .nil)) (ACalls.updP (by apply Takes.cons (by first | exact .here | exact k1 | exact k2 | exact k3 | exact k4 | exact k5 | exact k6 | exact k7 | exact k8 | exact k9 | exact k10 | exact k11 | exact k12 | exact k13); apply Takes.cons (by first | exact .here | exact k1 | exact k2 | exact k3 | exact k4 | exact k5 | exact k6 | exact k7 | exact k8 | exact k9 | exact k10 | exact k11 | exact k12 | exact k13); apply Takes.cons (by first | exact .here | exact k1 | exact k2 | exact k3 | exact k4 | exact k5 | exact k6 | exact k7 | exact k8 | exact k9 | exact k10 | exact k11 | exact k12 | exact k13); exact .nil _) (stop_c r j q t pad (Sv.set ((({ rn.1 with restarts := (Sv.recent q rn.1.restarts t) ++ [t] }, rn.2) : Sv.Rn)) c 4) tok (Sv.affected q c) (by have := Sv.affected_len q c (by omega); omega) (fun i hi => by have := Sv.affected_mem (by omega) hi; rw [Sv.set_len]; show 0 ≤ i ∧ i < (rn.1.children.length : Int); omega) (by show rn.2.length ≤ _; omega)) ?_)
          rintro v st ⟨tk1, rfl⟩
          have hsl : (Sv.stop t (Sv.set ((({ rn.1 with restarts := (Sv.recent q rn.1.restarts t) ++ [t] }, rn.2) : Sv.Rn)) c 4) (Sv.affected q c)).1.children.length = rn.1.children.length := (Sv.stop_len _ _ _).trans (Sv.set_len _ _ _)
          have hso : (Sv.stop t (Sv.set ((({ rn.1 with restarts := (Sv.recent q rn.1.restarts t) ++ [t] }, rn.2) : Sv.Rn)) c 4) (Sv.affected q c)).2.length ≤ 1016 := by
            have h1 := Sv.stop_out t (Sv.set ((({ rn.1 with restarts := (Sv.recent q rn.1.restarts t) ++ [t] }, rn.2) : Sv.Rn)) c 4) (Sv.affected q c)
            have h2 := Sv.affected_len q c (by omega)
            have h3 : (Sv.set ((({ rn.1 with restarts := (Sv.recent q rn.1.restarts t) ++ [t] }, rn.2) : Sv.Rn)) c 4).2.length = rn.2.length := rfl
            omega
          refine aops_nil ?_
          refine awp_seq ?_
          refine awp_seq ?_
          refine awp_region ?_
          refine st_p (fun _ => by exact y_move (.plain rfl)) rfl ?_
          first | refine st_p (fun _ => by exact y_nilPtr (.plain rfl)) rfl ?_ | refine st_p (fun _ => by exact y_nilE (.plain rfl)) rfl ?_
          refine st_p (fun _ => by exact y_fieldPtr (.plain rfl)) rfl ?_
          refine st_p (fun _ => by exact y_fieldPtr (.plain rfl)) rfl ?_
          refine st_p (fun _ => by exact y_load (.plain rfl) (by first | exact .here | exact k1 | exact k2 | exact k3 | exact k4 | exact k5 | exact k6 | exact k7 | exact k8 | exact k9 | exact k10 | exact k11 | exact k12 | exact k13) rfl) rfl ?_
          refine aops_call (blt_lt rfl) (.plain rfl) (.cons (.plain rfl) (.cons (.plain rfl) .nil)) (ACalls.then (ACalls.keep (by apply Takes.cons (by first | exact .here | exact k1 | exact k2 | exact k3 | exact k4 | exact k5 | exact k6 | exact k7 | exact k8 | exact k9 | exact k10 | exact k11 | exact k12 | exact k13); exact .nil _) (countA_c j pad (Sv.stop t (Sv.set ((({ rn.1 with restarts := (Sv.recent q rn.1.restarts t) ++ [t] }, rn.2) : Sv.Rn)) c 4) (Sv.affected q c)).1.children 2 (by omega))) ?_)
          refine st_p (fun _ => by exact y_eql (.plain rfl) (.plain rfl)) rfl ?_
          refine aops_nil ?_
          refine awp_cond rfl (fun h3 => ?_) (fun h3 => ?_)
          · skip
            try simp only [decide_eq_true_eq, decide_eq_false_iff_not, Bool.not_eq_true', Bool.not_eq_false', Bool.not_eq_true, Bool.not_eq_false, List.length_map, Int.ofNat_lt, Int.ofNat_le, Bool.or_eq_true, Bool.and_eq_true, Bool.or_eq_false_iff, Bool.and_eq_false_iff] at h3
            have hcn := h3
            refine awp_seq ?_
            refine awp_region ?_
            refine st_p (fun _ => by exact y_move (.plain rfl)) rfl ?_
            refine aops_call (blt_lt rfl) (.plain rfl) (.cons (.plain rfl) .nil) (ACalls.updP (by apply Takes.cons (by first | exact .here | exact k1 | exact k2 | exact k3 | exact k4 | exact k5 | exact k6 | exact k7 | exact k8 | exact k9 | exact k10 | exact k11 | exact k12 | exact k13); apply Takes.cons (by first | exact .here | exact k1 | exact k2 | exact k3 | exact k4 | exact k5 | exact k6 | exact k7 | exact k8 | exact k9 | exact k10 | exact k11 | exact k12 | exact k13); apply Takes.cons (by first | exact .here | exact k1 | exact k2 | exact k3 | exact k4 | exact k5 | exact k6 | exact k7 | exact k8 | exact k9 | exact k10 | exact k11 | exact k12 | exact k13); exact .nil _) (again_c r j q t pad (Sv.stop t (Sv.set ((({ rn.1 with restarts := (Sv.recent q rn.1.restarts t) ++ [t] }, rn.2) : Sv.Rn)) c 4) (Sv.affected q c)) tk1 (by omega) (by omega) ((Sv.Sb.set (r := ((({ rn.1 with restarts := (Sv.recent q rn.1.restarts t) ++ [t] }, rn.2) : Sv.Rn))) hsb c 4).stop t _)) ?_)
            rintro v st ⟨tk2, rfl⟩
            refine aops_nil ?_
            refine awp_ret ?_
            have e1 : Sv.running q t rn c re = Sv.again t (Sv.stop t (Sv.set ((({ rn.1 with restarts := (Sv.recent q rn.1.restarts t) ++ [t] }, rn.2) : Sv.Rn)) c 4) (Sv.affected q c)) := (if_neg hpol).trans ((if_neg hint).trans (if_pos hcn))
            exact retG (.inr rfl) .nil (VShift.of2 (st' := [.cells r [.int (Sv.running q t rn c re).1.status, .arr j 0 (Sv.running q t rn c re).1.children.length, .sl 1 ((Sv.running q t rn c re).1.restarts.map encI), .bool (Sv.running q t rn c re).1.failed, .int q.strategy, .int q.intensity, .int q.window, .sl 3 (q.children.map encCh), .int t, .grow 4 tk2 ((Sv.running q t rn c re).2.map encEv)], .cells j (((Sv.running q t rn c re).1.children.map encCs).flatten ++ pad), .tail tk2]) (AV.Imp.refl _) (by rw [e1]; (repeat (first | exact .refl _ | exact .nil _ | apply ItLe2.cons (by first | exact .here | exact k1 | exact k2 | exact k3 | exact k4 | exact k5 | exact k6 | exact k7 | exact k8 | exact k9 | exact k10 | exact k11 | exact k12 | exact k13) | apply ItLe2.cells (by first | exact .here | exact k1 | exact k2 | exact k3 | exact k4 | exact k5 | exact k6 | exact k7 | exact k8 | exact k9 | exact k10 | exact k11 | exact k12 | exact k13) (by repeat (first | exact .nil | refine .cons (by first | exact AV.Imp.refl _ | exact Sl.imp | exact AV.Imp.agg RowOf.imp | exact AV.Imp.grow_sl | exact AV.Imp.nil_grow | exact AV.Imp.full_grow | exact AV.Imp.own_grow | exact AV.Imp.grow_of rfl | exact AV.Imp.sl_of rfl | exact AV.Imp.int_of (by omega) | exact AV.Imp.of_eq (by first | omega | simpa)) ?_)) | apply ItLe2.tail0)); done)) ⟨tk2, rfl⟩
          · skip
            try simp only [decide_eq_true_eq, decide_eq_false_iff_not, Bool.not_eq_true', Bool.not_eq_false', Bool.not_eq_true, Bool.not_eq_false, List.length_map, Int.ofNat_lt, Int.ofNat_le, Bool.or_eq_true, Bool.and_eq_true, Bool.or_eq_false_iff, Bool.and_eq_false_iff] at h3
            have hcn := h3
            refine awp_skip ?_
            refine awp_region ?_
            refine st_p (fun _ => by exact y_move (.plain rfl)) rfl ?_
            first | refine st_p (fun _ => by exact y_nilPtr (.plain rfl)) rfl ?_ | refine st_p (fun _ => by exact y_nilE (.plain rfl)) rfl ?_
            refine st_p (fun _ => by exact y_fieldPtr (.plain rfl)) rfl ?_
            refine st_p (fun _ => by exact y_fieldPtr (.plain rfl)) rfl ?_
            refine st_storeN (cs' := [_, _, _, _, _, _, _, _, _, _]) (by rfl) rfl (.plain rfl) (.plain rfl) (by first | exact .here | exact u1 | exact u2 | exact u3 | exact u4 | exact u5 | exact u6 | exact u7 | exact u8 | exact u9 | exact u10 | exact u11 | exact u12 | exact u13) (le_ rfl) (by rfl) ?_
            refine aops_nil ?_
            have e1 : Sv.running q t rn c re = ((({ (Sv.stop t (Sv.set ((({ rn.1 with restarts := (Sv.recent q rn.1.restarts t) ++ [t] }, rn.2) : Sv.Rn)) c 4) (Sv.affected q c)).1 with status := 2 }, (Sv.stop t (Sv.set ((({ rn.1 with restarts := (Sv.recent q rn.1.restarts t) ++ [t] }, rn.2) : Sv.Rn)) c 4) (Sv.affected q c)).2) : Sv.Rn)) := (if_neg hpol).trans ((if_neg hint).trans (if_neg hcn))
            exact retG (.inl rfl) .nil (VShift.of2 (st' := [.cells r [.int (Sv.running q t rn c re).1.status, .arr j 0 (Sv.running q t rn c re).1.children.length, .sl 1 ((Sv.running q t rn c re).1.restarts.map encI), .bool (Sv.running q t rn c re).1.failed, .int q.strategy, .int q.intensity, .int q.window, .sl 3 (q.children.map encCh), .int t, .grow 4 tk1 ((Sv.running q t rn c re).2.map encEv)], .cells j (((Sv.running q t rn c re).1.children.map encCs).flatten ++ pad), .tail tk1]) (AV.Imp.refl _) (by rw [e1]; (repeat (first | exact .refl _ | exact .nil _ | apply ItLe2.cons (by first | exact .here | exact k1 | exact k2 | exact k3 | exact k4 | exact k5 | exact k6 | exact k7 | exact k8 | exact k9 | exact k10 | exact k11 | exact k12 | exact k13) | apply ItLe2.cells (by first | exact .here | exact k1 | exact k2 | exact k3 | exact k4 | exact k5 | exact k6 | exact k7 | exact k8 | exact k9 | exact k10 | exact k11 | exact k12 | exact k13) (by repeat (first | exact .nil | refine .cons (by first | exact AV.Imp.refl _ | exact Sl.imp | exact AV.Imp.agg RowOf.imp | exact AV.Imp.grow_sl | exact AV.Imp.nil_grow | exact AV.Imp.full_grow | exact AV.Imp.own_grow | exact AV.Imp.grow_of rfl | exact AV.Imp.sl_of rfl | exact AV.Imp.int_of (by omega) | exact AV.Imp.of_eq (by first | omega | simpa)) ?_)) | apply ItLe2.tail0)); done)) ⟨tk1, rfl⟩
      · kernel_rfl
    · skip
      refine awp_anyT (ks := [.free, .free, .free, .free, .free, .free, .free, .free, .free, .free, .free, .free, .free, .write, .free]) [] (.nil _) (by kernel_rfl) (fun K => ?_) ?_
      · skip
        refine dr_p (fun _ => by exact y_move (.plain rfl)) rfl ?_
        first | refine dr_p (fun _ => by exact y_nilPtr (.plain rfl)) rfl ?_ | refine dr_p (fun _ => by exact y_nilE (.plain rfl)) rfl ?_
        refine dr_p (fun _ => by exact y_fieldPtr (.plain rfl)) rfl ?_
        refine dr_p (fun _ => by exact y_loadAggN (cs' := [_, _, _, _]) (.plain rfl) (by first | exact .here | exact k1 | exact k2 | exact k3 | exact k4 | exact k5 | exact k6 | exact k7 | exact k8 | exact k9 | exact k10 | exact k11 | exact k12 | exact k13) (le_ rfl) (by rfl)) rfl ?_
        refine dr_p (fun _ => by exact y_move (.plain rfl)) rfl ?_
        first | refine dr_p (fun _ => by exact y_nilPtr (.plain rfl)) rfl ?_ | refine dr_p (fun _ => by exact y_nilE (.plain rfl)) rfl ?_
        refine dr_p (fun _ => by exact y_fieldPtr (.plain rfl)) rfl ?_
        refine dr_p (fun _ => by exact y_fieldPtr (.plain rfl)) rfl ?_
        refine dr_p (fun _ => by exact y_load (.plain rfl) (by first | exact .here | exact k1 | exact k2 | exact k3 | exact k4 | exact k5 | exact k6 | exact k7 | exact k8 | exact k9 | exact k10 | exact k11 | exact k12 | exact k13) rfl) rfl ?_
        refine dr_p (fun _ => by exact y_move (.plain rfl)) rfl ?_
        first | refine dr_p (fun _ => by exact y_nilPtr (.plain rfl)) rfl ?_ | refine dr_p (fun _ => by exact y_nilE (.plain rfl)) rfl ?_
        refine dr_p (fun _ => by exact y_fieldPtr (.plain rfl)) rfl ?_
        refine dr_p (fun _ => by exact y_load (.plain rfl) (by first | exact .here | exact k1 | exact k2 | exact k3 | exact k4 | exact k5 | exact k6 | exact k7 | exact k8 | exact k9 | exact k10 | exact k11 | exact k12 | exact k13) rfl) rfl ?_
        refine dr_n (fun _ => by exact y_callVec (.plain rfl) (.cons (.plain rfl) (.cons (.plain rfl) (.cons (.plain rfl) .nil))) (recent1_c q rn.1.restarts hq0 t (by omega) ht hw)) rfl fun nr => ?_
        refine dr_p (fun _ => by exact y_assign (.plain rfl)) rfl ?_
        refine dr_nil ?_
        refine awp_seq ?_
        refine awp_seq ?_
        refine awp_region ?_
        refine st_p (fun _ => by exact y_move (.plain rfl)) rfl ?_
        first | refine st_p (fun _ => by exact y_lenN (.plain rfl)) rfl ?_ | refine st_p (fun _ => by exact y_len (.plain rfl)) rfl ?_ | refine st_p (fun _ => by exact y_lenArr (.plain rfl)) rfl ?_ | refine st_p (fun _ => by exact y_vlen (.plain rfl)) rfl ?_ | refine st_p (fun _ => by exact y_strLen (by rfl) (.plain rfl)) rfl ?_
        refine st_p (fun _ => by exact y_move (.plain rfl)) rfl ?_
        first | refine st_p (fun _ => by exact y_nilPtr (.plain rfl)) rfl ?_ | refine st_p (fun _ => by exact y_nilE (.plain rfl)) rfl ?_
        refine st_p (fun _ => by exact y_fieldPtr (.plain rfl)) rfl ?_
        refine st_p (fun _ => by exact y_fieldPtr (.plain rfl)) rfl ?_
        refine st_p (fun _ => by exact y_load (.plain rfl) (by first | exact .here | exact k1 | exact k2 | exact k3 | exact k4 | exact k5 | exact k6 | exact k7 | exact k8 | exact k9 | exact k10 | exact k11 | exact k12 | exact k13) rfl) rfl ?_
        refine st_p (fun _ => by exact y_geq (.plain rfl) (.plain rfl)) rfl ?_
        refine aops_nil ?_
        refine awp_cond rfl (fun h4 => ?_) (fun h4 => ?_)
        · skip
          try simp only [decide_eq_true_eq, decide_eq_false_iff_not, Bool.not_eq_true', Bool.not_eq_false', Bool.not_eq_true, Bool.not_eq_false, List.length_map, Int.ofNat_lt, Int.ofNat_le, Bool.or_eq_true, Bool.and_eq_true, Bool.or_eq_false_iff, Bool.and_eq_false_iff] at h4
          have hint : q.intensity ≤ ((Sv.recent q rn.1.restarts t).length : Int) := by simpa using h4
          refine awp_seq ?_
          refine awp_region ?_
          refine st_p (fun _ => by exact y_move (.plain rfl)) rfl ?_
          refine st_p (fun _ => by exact y_move (.plain rfl)) rfl ?_
          refine aops_call (blt_lt rfl) (.plain rfl) (.cons (.plain rfl) (.cons (.plain rfl) (.cons (.plain rfl) .nil))) (ACalls.updP (by apply Takes.cons (by first | exact .here | exact k1 | exact k2 | exact k3 | exact k4 | exact k5 | exact k6 | exact k7 | exact k8 | exact k9 | exact k10 | exact k11 | exact k12 | exact k13); apply Takes.cons (by first | exact .here | exact k1 | exact k2 | exact k3 | exact k4 | exact k5 | exact k6 | exact k7 | exact k8 | exact k9 | exact k10 | exact k11 | exact k12 | exact k13); apply Takes.cons (by first | exact .here | exact k1 | exact k2 | exact k3 | exact k4 | exact k5 | exact k6 | exact k7 | exact k8 | exact k9 | exact k10 | exact k11 | exact k12 | exact k13); exact .nil _) (setR_c r j q t pad rn tok c 3 hc) ?_)
          rintro v st rfl
          refine aops_nil ?_
          refine awp_seq ?_
          refine awp_region ?_
          refine st_p (fun _ => by exact y_move (.plain rfl)) rfl ?_
          first | refine st_p (fun _ => by exact y_nilPtr (.plain rfl)) rfl ?_ | refine st_p (fun _ => by exact y_nilE (.plain rfl)) rfl ?_
          refine st_p (fun _ => by exact y_fieldPtr (.plain rfl)) rfl ?_
          refine st_p (fun _ => by exact y_fieldPtr (.plain rfl)) rfl ?_
          refine st_storeN (cs' := [_, _, _, _, _, _, _, _, _, _]) (by rfl) rfl (.plain rfl) (.plain rfl) (by first | exact .here | exact u1 | exact u2 | exact u3 | exact u4 | exact u5 | exact u6 | exact u7 | exact u8 | exact u9 | exact u10 | exact u11 | exact u12 | exact u13) (le_ rfl) (by rfl) ?_
          refine aops_nil ?_
          refine awp_seq ?_
          refine awp_region ?_
          refine st_p (fun _ => by exact y_move (.plain rfl)) rfl ?_
          refine aops_call (blt_lt rfl) (.plain rfl) (.cons (.plain rfl) .nil) (ACalls.updP (by apply Takes.cons (by first | exact .here | exact k1 | exact k2 | exact k3 | exact k4 | exact k5 | exact k6 | exact k7 | exact k8 | exact k9 | exact k10 | exact k11 | exact k12 | exact k13); apply Takes.cons (by first | exact .here | exact k1 | exact k2 | exact k3 | exact k4 | exact k5 | exact k6 | exact k7 | exact k8 | exact k9 | exact k10 | exact k11 | exact k12 | exact k13); apply Takes.cons (by first | exact .here | exact k1 | exact k2 | exact k3 | exact k4 | exact k5 | exact k6 | exact k7 | exact k8 | exact k9 | exact k10 | exact k11 | exact k12 | exact k13); exact .nil _) (shut_c r j q t pad ((({ (Sv.set rn c 3).1 with failed := true }, rn.2) : Sv.Rn)) tok (by show (Sv.setL rn.1.children c 3).length ≤ _; rw [Sv.setL, List.length_set]; omega) (by show rn.2.length ≤ _; omega)) ?_)
          rintro v st ⟨tk1, rfl⟩
          refine aops_nil ?_
          refine awp_ret ?_
          have e1 : Sv.running q t rn c re = Sv.shut t ((({ (Sv.set rn c 3).1 with failed := true }, rn.2) : Sv.Rn)) := (if_neg hpol).trans (if_pos hint)
          exact retG (.inr rfl) .nil (VShift.of2 (st' := [.cells r [.int (Sv.running q t rn c re).1.status, .arr j 0 (Sv.running q t rn c re).1.children.length, .sl 1 ((Sv.running q t rn c re).1.restarts.map encI), .bool (Sv.running q t rn c re).1.failed, .int q.strategy, .int q.intensity, .int q.window, .sl 3 (q.children.map encCh), .int t, .grow 4 tk1 ((Sv.running q t rn c re).2.map encEv)], .cells j (((Sv.running q t rn c re).1.children.map encCs).flatten ++ pad), .tail tk1]) (AV.Imp.refl _) (by rw [e1]; (repeat (first | exact .refl _ | exact .nil _ | apply ItLe2.cons (by first | exact .here | exact k1 | exact k2 | exact k3 | exact k4 | exact k5 | exact k6 | exact k7 | exact k8 | exact k9 | exact k10 | exact k11 | exact k12 | exact k13) | apply ItLe2.cells (by first | exact .here | exact k1 | exact k2 | exact k3 | exact k4 | exact k5 | exact k6 | exact k7 | exact k8 | exact k9 | exact k10 | exact k11 | exact k12 | exact k13) (by repeat (first | exact .nil | refine .cons (by first | exact AV.Imp.refl _ | exact Sl.imp | exact AV.Imp.agg RowOf.imp | exact AV.Imp.grow_sl | exact AV.Imp.nil_grow | exact AV.Imp.full_grow | exact AV.Imp.own_grow | exact AV.Imp.grow_of rfl | exact AV.Imp.sl_of rfl | exact AV.Imp.int_of (by omega) | exact AV.Imp.of_eq (by first | omega | simpa)) ?_)) | apply ItLe2.tail0)); done)) ⟨tk1, rfl⟩
        · skip
          try simp only [decide_eq_true_eq, decide_eq_false_iff_not, Bool.not_eq_true', Bool.not_eq_false', Bool.not_eq_true, Bool.not_eq_false, List.length_map, Int.ofNat_lt, Int.ofNat_le, Bool.or_eq_true, Bool.and_eq_true, Bool.or_eq_false_iff, Bool.and_eq_false_iff] at h4
          have hint : ¬ q.intensity ≤ ((Sv.recent q rn.1.restarts t).length : Int) := by simpa using h4
          refine awp_skip ?_
          refine awp_seq ?_
          refine awp_region ?_
          refine st_p (fun _ => by exact y_move (.plain rfl)) rfl ?_
          refine st_p (fun _ => by exact y_move (.plain rfl)) rfl ?_
          refine st_p (fun _ => by exact y_move (.plain rfl)) rfl ?_
          first | refine st_p (fun _ => by exact y_nilPtr (.plain rfl)) rfl ?_ | refine st_p (fun _ => by exact y_nilE (.plain rfl)) rfl ?_
          refine st_p (fun _ => by exact y_fieldPtr (.plain rfl)) rfl ?_
          refine st_p (fun _ => by exact y_load (.plain rfl) (by first | exact .here | exact k1 | exact k2 | exact k3 | exact k4 | exact k5 | exact k6 | exact k7 | exact k8 | exact k9 | exact k10 | exact k11 | exact k12 | exact k13) rfl) rfl ?_
          refine st_p (fun _ => by exact y_buildSlice (.cons (.plain rfl) inferInstance (by rfl) .nil) rfl (le_ rfl)) rfl ?_
          refine st_n (fun _ => by exact y_vappend (xs := (Sv.recent q rn.1.restarts t).map AV.int) (by rfl) (by rfl) (.plain rfl) (by rw [List.length_map, Nat.mul_one]) (.plain rfl) (by simp) (by first | (simp; done) | (simp; omega)) (by first | exact .here | exact k1 | exact k2 | exact k3 | exact k4 | exact k5 | exact k6 | exact k7 | exact k8 | exact k9 | exact k10 | exact k11 | exact k12 | exact k13)) rfl fun nv => ?_
          first | refine st_p (fun _ => by exact y_nilPtr (.plain rfl)) rfl ?_ | refine st_p (fun _ => by exact y_nilE (.plain rfl)) rfl ?_
          refine st_p (fun _ => by exact y_fieldPtr (.plain rfl)) rfl ?_
          refine st_p (fun _ => by exact y_fieldPtr (.plain rfl)) rfl ?_
          refine st_storeN (cs' := [_, _, _, _, _, _, _, _, _, _]) (by rfl) rfl (.plain rfl) (.plain rfl) (by first | exact .here | exact u1 | exact u2 | exact u3 | exact u4 | exact u5 | exact u6 | exact u7 | exact u8 | exact u9 | exact u10 | exact u11 | exact u12 | exact u13) (le_ rfl) (by rfl) ?_
          refine aops_nil ?_
          refine awp_seq ?_
          refine awp_items (st' := [.vec (some nv) (((Sv.recent q rn.1.restarts t) ++ [t]).map encI).flatten, .cells r [.int rn.1.status, .arr j 0 rn.1.children.length, .vec 1 (some nv) ((Sv.recent q rn.1.restarts t).length + 1), .bool rn.1.failed, .int q.strategy, .int q.intensity, .int q.window, .sl 3 (q.children.map encCh), .int t, .grow 4 tok (rn.2.map encEv)], .cells j ((rn.1.children.map encCs).flatten ++ pad), .tail tok]) (by rw [enc1_flat, List.map_append]; rfl) ?_
          refine awp_weak (Weak.freezeV (cs := [.int rn.1.status, .arr j 0 rn.1.children.length, .vec 1 (some nv) ((Sv.recent q rn.1.restarts t).length + 1), .bool rn.1.failed, .int q.strategy, .int q.intensity, .int q.window, .sl 3 (q.children.map encCh), .int t, .grow 4 tok (rn.2.map encEv)]) (i := 2) (sz := 1) (xs := ((Sv.recent q rn.1.restarts t) ++ [t]).map encI) (by simp) (by intro x hx; obtain ⟨b, _, rfl⟩ := List.mem_map.1 hx; rfl) rfl (.cons .here (.cons .here (.nil _)))) ?_
          refine awp_region ?_
          refine st_p (fun _ => by exact y_move (.plain rfl)) rfl ?_
          refine st_p (fun _ => by exact y_move (.plain rfl)) rfl ?_
          refine aops_call (blt_lt rfl) (.plain rfl) (.cons (.plain rfl) (.cons (.plain rfl) (.cons (.plain rfl) .nil))) (ACalls.updP (by apply Takes.cons (by first | exact .here | exact k1 | exact k2 | exact k3 | exact k4 | exact k5 | exact k6 | exact k7 | exact k8 | exact k9 | exact k10 | exact k11 | exact k12 | exact k13); apply Takes.cons (by first | exact .here | exact k1 | exact k2 | exact k3 | exact k4 | exact k5 | exact k6 | exact k7 | exact k8 | exact k9 | exact k10 | exact k11 | exact k12 | exact k13); apply Takes.cons (by first | exact .here | exact k1 | exact k2 | exact k3 | exact k4 | exact k5 | exact k6 | exact k7 | exact k8 | exact k9 | exact k10 | exact k11 | exact k12 | exact k13); exact .nil _) (setR_c r j q t pad ((({ rn.1 with restarts := (Sv.recent q rn.1.restarts t) ++ [t] }, rn.2) : Sv.Rn)) tok c 4 hc) ?_)
          rintro v st rfl
          refine aops_nil ?_
          refine awp_seq ?_
          refine awp_region ?_
          refine st_p (fun _ => by exact y_move (.plain rfl)) rfl ?_
          refine st_p (fun _ => by exact y_move (.plain rfl)) rfl ?_
          first | refine st_p (fun _ => by exact y_nilPtr (.plain rfl)) rfl ?_ | refine st_p (fun _ => by exact y_nilE (.plain rfl)) rfl ?_
          refine st_p (fun _ => by exact y_fieldPtr (.plain rfl)) rfl ?_
          refine st_p (fun _ => by exact y_loadAggN (cs' := [_, _, _, _]) (.plain rfl) (by first | exact .here | exact k1 | exact k2 | exact k3 | exact k4 | exact k5 | exact k6 | exact k7 | exact k8 | exact k9 | exact k10 | exact k11 | exact k12 | exact k13) (le_ rfl) (by rfl)) rfl ?_
          refine st_p (fun _ => by exact y_move (.plain rfl)) rfl ?_
          refine aops_call (blt_lt rfl) (.plain rfl) (.cons (.imp (.plain rfl) (AV.Imp.agg (RowOf.imp (enc := encSp)))) (.cons (.plain rfl) .nil)) (ACalls.here (affected_c q c (by omega) (by omega)) ?_)
          refine aops_call (blt_lt rfl) (.plain rfl) (.cons (.plain rfl) (.cons (.plain rfl) .nil)) (ACalls.updP (by apply Takes.cons (by first | exact .here | exact k1 | exact k2 | exact k3 | exact k4 | exact k5 | exact k6 | exact k7 | exact k8 | exact k9 | exact k10 | exact k11 | exact k12 | exact k13); apply Takes.cons (by first | exact .here | exact k1 | exact k2 | exact k3 | exact k4 | exact k5 | exact k6 | exact k7 | exact k8 | exact k9 | exact k10 | exact k11 | exact k12 | exact k13); apply Takes.cons (by first | exact .here | exact k1 | exact k2 | exact k3 | exact k4 | exact k5 | exact k6 | exact k7 | exact k8 | exact k9 | exact k10 | exact k11 | exact k12 | exact k13); exact .nil _) (stop_c r j q t pad (Sv.set ((({ rn.1 with restarts := (Sv.recent q rn.1.restarts t) ++ [t] }, rn.2) : Sv.Rn)) c 4) tok (Sv.affected q c) (by have := Sv.affected_len q c (by omega); omega) (fun i hi => by have := Sv.affected_mem (by omega) hi; rw [Sv.set_len]; show 0 ≤ i ∧ i < (rn.1.children.length : Int); omega) (by show rn.2.length ≤ _; omega)) ?_)
          rintro v st ⟨tk1, rfl⟩
          have hsl : (Sv.stop t (Sv.set ((({ rn.1 with restarts := (Sv.recent q rn.1.restarts t) ++ [t] }, rn.2) : Sv.Rn)) c 4) (Sv.affected q c)).1.children.length = rn.1.children.length := (Sv.stop_len _ _ _).trans (Sv.set_len _ _ _)
          have hso : (Sv.stop t (Sv.set ((({ rn.1 with restarts := (Sv.recent q rn.1.restarts t) ++ [t] }, rn.2) : Sv.Rn)) c 4) (Sv.affected q c)).2.length ≤ 1016 := by
            have h1 := Sv.stop_out t (Sv.set ((({ rn.1 with restarts := (Sv.recent q rn.1.restarts t) ++ [t] }, rn.2) : Sv.Rn)) c 4) (Sv.affected q c)
            have h2 := Sv.affected_len q c (by omega)
            have h3 : (Sv.set ((({ rn.1 with restarts := (Sv.recent q rn.1.restarts t) ++ [t] }, rn.2) : Sv.Rn)) c 4).2.length = rn.2.length := rfl
            omega
          refine aops_nil ?_
          refine awp_seq ?_
          refine awp_seq ?_
          refine awp_region ?_
          refine st_p (fun _ => by exact y_move (.plain rfl)) rfl ?_
          first | refine st_p (fun _ => by exact y_nilPtr (.plain rfl)) rfl ?_ | refine st_p (fun _ => by exact y_nilE (.plain rfl)) rfl ?_
          refine st_p (fun _ => by exact y_fieldPtr (.plain rfl)) rfl ?_
          refine st_p (fun _ => by exact y_fieldPtr (.plain rfl)) rfl ?_
          refine st_p (fun _ => by exact y_load (.plain rfl) (by first | exact .here | exact k1 | exact k2 | exact k3 | exact k4 | exact k5 | exact k6 | exact k7 | exact k8 | exact k9 | exact k10 | exact k11 | exact k12 | exact k13) rfl) rfl ?_
          refine aops_call (blt_lt rfl) (.plain rfl) (.cons (.plain rfl) (.cons (.plain rfl) .nil)) (ACalls.then (ACalls.keep (by apply Takes.cons (by first | exact .here | exact k1 | exact k2 | exact k3 | exact k4 | exact k5 | exact k6 | exact k7 | exact k8 | exact k9 | exact k10 | exact k11 | exact k12 | exact k13); exact .nil _) (countA_c j pad (Sv.stop t (Sv.set ((({ rn.1 with restarts := (Sv.recent q rn.1.restarts t) ++ [t] }, rn.2) : Sv.Rn)) c 4) (Sv.affected q c)).1.children 2 (by omega))) ?_)
          refine st_p (fun _ => by exact y_eql (.plain rfl) (.plain rfl)) rfl ?_
          refine aops_nil ?_
          refine awp_cond rfl (fun h5 => ?_) (fun h5 => ?_)
          · skip
            try simp only [decide_eq_true_eq, decide_eq_false_iff_not, Bool.not_eq_true', Bool.not_eq_false', Bool.not_eq_true, Bool.not_eq_false, List.length_map, Int.ofNat_lt, Int.ofNat_le, Bool.or_eq_true, Bool.and_eq_true, Bool.or_eq_false_iff, Bool.and_eq_false_iff] at h5
            have hcn := h5
            refine awp_seq ?_
            refine awp_region ?_
            refine st_p (fun _ => by exact y_move (.plain rfl)) rfl ?_
            refine aops_call (blt_lt rfl) (.plain rfl) (.cons (.plain rfl) .nil) (ACalls.updP (by apply Takes.cons (by first | exact .here | exact k1 | exact k2 | exact k3 | exact k4 | exact k5 | exact k6 | exact k7 | exact k8 | exact k9 | exact k10 | exact k11 | exact k12 | exact k13); apply Takes.cons (by first | exact .here | exact k1 | exact k2 | exact k3 | exact k4 | exact k5 | exact k6 | exact k7 | exact k8 | exact k9 | exact k10 | exact k11 | exact k12 | exact k13); apply Takes.cons (by first | exact .here | exact k1 | exact k2 | exact k3 | exact k4 | exact k5 | exact k6 | exact k7 | exact k8 | exact k9 | exact k10 | exact k11 | exact k12 | exact k13); exact .nil _) (again_c r j q t pad (Sv.stop t (Sv.set ((({ rn.1 with restarts := (Sv.recent q rn.1.restarts t) ++ [t] }, rn.2) : Sv.Rn)) c 4) (Sv.affected q c)) tk1 (by omega) (by omega) ((Sv.Sb.set (r := ((({ rn.1 with restarts := (Sv.recent q rn.1.restarts t) ++ [t] }, rn.2) : Sv.Rn))) hsb c 4).stop t _)) ?_)
            rintro v st ⟨tk2, rfl⟩
            refine aops_nil ?_
            refine awp_ret ?_
            have e1 : Sv.running q t rn c re = Sv.again t (Sv.stop t (Sv.set ((({ rn.1 with restarts := (Sv.recent q rn.1.restarts t) ++ [t] }, rn.2) : Sv.Rn)) c 4) (Sv.affected q c)) := (if_neg hpol).trans ((if_neg hint).trans (if_pos hcn))
            exact retG (.inr rfl) .nil (VShift.of2 (st' := [.cells r [.int (Sv.running q t rn c re).1.status, .arr j 0 (Sv.running q t rn c re).1.children.length, .sl 1 ((Sv.running q t rn c re).1.restarts.map encI), .bool (Sv.running q t rn c re).1.failed, .int q.strategy, .int q.intensity, .int q.window, .sl 3 (q.children.map encCh), .int t, .grow 4 tk2 ((Sv.running q t rn c re).2.map encEv)], .cells j (((Sv.running q t rn c re).1.children.map encCs).flatten ++ pad), .tail tk2]) (AV.Imp.refl _) (by rw [e1]; (repeat (first | exact .refl _ | exact .nil _ | apply ItLe2.cons (by first | exact .here | exact k1 | exact k2 | exact k3 | exact k4 | exact k5 | exact k6 | exact k7 | exact k8 | exact k9 | exact k10 | exact k11 | exact k12 | exact k13) | apply ItLe2.cells (by first | exact .here | exact k1 | exact k2 | exact k3 | exact k4 | exact k5 | exact k6 | exact k7 | exact k8 | exact k9 | exact k10 | exact k11 | exact k12 | exact k13) (by repeat (first | exact .nil | refine .cons (by first | exact AV.Imp.refl _ | exact Sl.imp | exact AV.Imp.agg RowOf.imp | exact AV.Imp.grow_sl | exact AV.Imp.nil_grow | exact AV.Imp.full_grow | exact AV.Imp.own_grow | exact AV.Imp.grow_of rfl | exact AV.Imp.sl_of rfl | exact AV.Imp.int_of (by omega) | exact AV.Imp.of_eq (by first | omega | simpa)) ?_)) | apply ItLe2.tail0)); done)) ⟨tk2, rfl⟩
          · skip
            try simp only [decide_eq_true_eq, decide_eq_false_iff_not, Bool.not_eq_true', Bool.not_eq_false', Bool.not_eq_true, Bool.not_eq_false, List.length_map, Int.ofNat_lt, Int.ofNat_le, Bool.or_eq_true, Bool.and_eq_true, Bool.or_eq_false_iff, Bool.and_eq_false_iff] at h5
            have hcn := h5
            refine awp_skip ?_
            refine awp_region ?_
            refine st_p (fun _ => by exact y_move (.plain rfl)) rfl ?_
            first | refine st_p (fun _ => by exact y_nilPtr (.plain rfl)) rfl ?_ | refine st_p (fun _ => by exact y_nilE (.plain rfl)) rfl ?_
            refine st_p (fun _ => by exact y_fieldPtr (.plain rfl)) rfl ?_
            refine st_p (fun _ => by exact y_fieldPtr (.plain rfl)) rfl ?_
            refine st_storeN (cs' := [_, _, _, _, _, _, _, _, _, _]) (by rfl) rfl (.plain rfl) (.plain rfl) (by first | exact .here | exact u1 | exact u2 | exact u3 | exact u4 | exact u5 | exact u6 | exact u7 | exact u8 | exact u9 | exact u10 | exact u11 | exact u12 | exact u13) (le_ rfl) (by rfl) ?_
            refine aops_nil ?_
            have e1 : Sv.running q t rn c re = ((({ (Sv.stop t (Sv.set ((({ rn.1 with restarts := (Sv.recent q rn.1.restarts t) ++ [t] }, rn.2) : Sv.Rn)) c 4) (Sv.affected q c)).1 with status := 2 }, (Sv.stop t (Sv.set ((({ rn.1 with restarts := (Sv.recent q rn.1.restarts t) ++ [t] }, rn.2) : Sv.Rn)) c 4) (Sv.affected q c)).2) : Sv.Rn)) := (if_neg hpol).trans ((if_neg hint).trans (if_neg hcn))
            exact retG (.inl rfl) .nil (VShift.of2 (st' := [.cells r [.int (Sv.running q t rn c re).1.status, .arr j 0 (Sv.running q t rn c re).1.children.length, .sl 1 ((Sv.running q t rn c re).1.restarts.map encI), .bool (Sv.running q t rn c re).1.failed, .int q.strategy, .int q.intensity, .int q.window, .sl 3 (q.children.map encCh), .int t, .grow 4 tk1 ((Sv.running q t rn c re).2.map encEv)], .cells j (((Sv.running q t rn c re).1.children.map encCs).flatten ++ pad), .tail tk1]) (AV.Imp.refl _) (by rw [e1]; (repeat (first | exact .refl _ | exact .nil _ | apply ItLe2.cons (by first | exact .here | exact k1 | exact k2 | exact k3 | exact k4 | exact k5 | exact k6 | exact k7 | exact k8 | exact k9 | exact k10 | exact k11 | exact k12 | exact k13) | apply ItLe2.cells (by first | exact .here | exact k1 | exact k2 | exact k3 | exact k4 | exact k5 | exact k6 | exact k7 | exact k8 | exact k9 | exact k10 | exact k11 | exact k12 | exact k13) (by repeat (first | exact .nil | refine .cons (by first | exact AV.Imp.refl _ | exact Sl.imp | exact AV.Imp.agg RowOf.imp | exact AV.Imp.grow_sl | exact AV.Imp.nil_grow | exact AV.Imp.full_grow | exact AV.Imp.own_grow | exact AV.Imp.grow_of rfl | exact AV.Imp.sl_of rfl | exact AV.Imp.int_of (by omega) | exact AV.Imp.of_eq (by first | omega | simpa)) ?_)) | apply ItLe2.tail0)); done)) ⟨tk1, rfl⟩
      · kernel_rfl

theorem stopping_c (r j : Nat) (q : Sv.Spc) (t : Int) (pad : List AV) (rn : Sv.Rn) (tok : Option Nat) (hqc : q.children.length = rn.1.children.length) (hn : rn.1.children.length ≤ 16) (ho : rn.2.length ≤ 1000) (hsb : Sv.Sb rn) (hrl : rn.1.restarts.length ≤ 1000) (ht : 0 ≤ t ∧ t ≤ 1099511627776) (hw : 0 ≤ q.window ∧ q.window ≤ 1099511627776) (c : Int) (hc : 0 ≤ c ∧ c < rn.1.children.length) : ACalls Try.prog 30 [.ptr r 0, .int c] [.cells r [.int rn.1.status, .arr j 0 rn.1.children.length, .sl 1 (rn.1.restarts.map encI), .bool rn.1.failed, .int q.strategy, .int q.intensity, .int q.window, .sl 3 (q.children.map encCh), .int t, .grow 4 tok (rn.2.map encEv)], .cells j ((rn.1.children.map encCs).flatten ++ pad), .tail tok] (fun y st => ∃ tk, st = [.cells r [.int (Sv.stopping q t rn c).1.status, .arr j 0 (Sv.stopping q t rn c).1.children.length, .sl 1 ((Sv.stopping q t rn c).1.restarts.map encI), .bool (Sv.stopping q t rn c).1.failed, .int q.strategy, .int q.intensity, .int q.window, .sl 3 (q.children.map encCh), .int t, .grow 4 tk ((Sv.stopping q t rn c).2.map encEv)], .cells j (((Sv.stopping q t rn c).1.children.map encCs).flatten ++ pad), .tail tk]) := by
  refine acalls_body Try.func30 (by kernel_rfl) rfl Try.ntmps30 (le_ rfl) ?_
  rw [Try.results30]
  refine awp_seq ?_
  refine awp_seq ?_
  refine awp_region ?_
  refine st_p (fun _ => by exact y_move (.plain rfl)) rfl ?_
  first | refine st_p (fun _ => by exact y_nilPtr (.plain rfl)) rfl ?_ | refine st_p (fun _ => by exact y_nilE (.plain rfl)) rfl ?_
  refine st_p (fun _ => by exact y_fieldPtr (.plain rfl)) rfl ?_
  refine st_p (fun _ => by exact y_fieldPtr (.plain rfl)) rfl ?_
  refine st_p (fun _ => by exact y_load (.plain rfl) (by first | exact .here | exact k1 | exact k2 | exact k3 | exact k4 | exact k5 | exact k6 | exact k7 | exact k8 | exact k9 | exact k10 | exact k11 | exact k12 | exact k13) rfl) rfl ?_
  refine st_p (fun _ => by exact y_eql (.plain rfl) (.plain rfl)) rfl ?_
  refine st_p (fun _ => by exact y_move (.plain rfl)) rfl ?_
  refine st_g rfl rfl rfl SaysI.out (fun hc _ => by exact y_move (.plain rfl)) rfl ?_
  first | refine st_g rfl rfl rfl SaysI.out (fun hc _ => by exact y_nilPtr (.opt rfl hc)) rfl ?_ | refine st_g rfl rfl rfl SaysI.out (fun hc _ => by exact y_nilE (.opt rfl hc)) rfl ?_
  refine st_g rfl rfl rfl SaysI.out (fun hc _ => by exact y_fieldPtr (.opt rfl hc)) rfl ?_
  refine st_g rfl rfl rfl SaysI.out (fun hc _ => by exact y_fieldPtr (.opt rfl hc)) rfl ?_
  refine st_g rfl rfl rfl SaysI.out (fun hc _ => by exact y_load (.opt rfl hc) (by first | exact .here | exact k1 | exact k2 | exact k3 | exact k4 | exact k5 | exact k6 | exact k7 | exact k8 | exact k9 | exact k10 | exact k11 | exact k12 | exact k13) rfl) rfl ?_
  refine st_g rfl rfl rfl SaysI.out (fun hc _ => by exact y_move (.plain rfl)) rfl ?_
  first | refine st_g rfl rfl rfl SaysI.out (fun hc _ => by exact y_indexMap (.opt rfl hc) (.opt rfl hc) rfl (by refine ⟨?_, ?_⟩; (first | omega | (simp; omega) | (simp at hc; omega) | (simp at hc ⊢; omega) | (simp; done)); rfl)) rfl ?_ | refine st_g rfl rfl rfl SaysI.out (fun hc _ => by exact y_indexT (.opt rfl hc) (.opt rfl hc) (by first | omega | (simp; omega) | (simp at hc; omega) | (simp at hc ⊢; omega) | (simp; done)) (by first | omega | (simp; omega) | (simp at hc; omega) | (simp at hc ⊢; omega) | (simp; done))) rfl ?_ | refine st_g rfl rfl rfl SaysI.out (fun hc _ => by exact y_index (.opt rfl hc) (.opt rfl hc) (by omega) rfl) rfl ?_ | refine st_g rfl rfl rfl SaysI.out (fun hc _ => by exact y_indexArr (.opt rfl hc) (.opt rfl hc) rfl (by first | omega | (simp; omega) | (simp at hc; omega) | (simp at hc ⊢; omega) | (simp; done))) rfl ?_
  refine st_g rfl rfl rfl SaysI.out (fun hc _ => by exact y_fieldE (.opt rfl hc) (le_ rfl)) rfl ?_
  refine st_g rfl rfl rfl SaysI.out (fun hc _ => by exact y_loadE (.opt rfl hc) rfl) rfl ?_
  refine st_g rfl rfl rfl SaysI.out (fun hc _ => by exact y_neq (.opt rfl hc) (.plain rfl)) rfl ?_
  refine st_p (fun _ => by exact y_and (.plain rfl) rfl rfl) rfl ?_
  refine aops_nil ?_
  refine awp_cond rfl (fun h1 => ?_) (fun h1 => ?_)
  · skip
    try simp only [decide_eq_true_eq, decide_eq_false_iff_not, Bool.not_eq_true', Bool.not_eq_false', Bool.not_eq_true, Bool.not_eq_false, List.length_map, Int.ofNat_lt, Int.ofNat_le, Bool.or_eq_true, Bool.and_eq_true, Bool.or_eq_false_iff, Bool.and_eq_false_iff] at h1
    have hst : rn.1.status = 2 ∧ Sv.polic q c ≠ 3 := by simpa [Sv.polic] using h1
    refine awp_region ?_
    refine st_p (fun _ => by exact y_move (.plain rfl)) rfl ?_
    refine st_p (fun _ => by exact y_move (.plain rfl)) rfl ?_
    refine aops_call (blt_lt rfl) (.plain rfl) (.cons (.plain rfl) (.cons (.plain rfl) (.cons (.plain rfl) .nil))) (ACalls.updP (by apply Takes.cons (by first | exact .here | exact k1 | exact k2 | exact k3 | exact k4 | exact k5 | exact k6 | exact k7 | exact k8 | exact k9 | exact k10 | exact k11 | exact k12 | exact k13); apply Takes.cons (by first | exact .here | exact k1 | exact k2 | exact k3 | exact k4 | exact k5 | exact k6 | exact k7 | exact k8 | exact k9 | exact k10 | exact k11 | exact k12 | exact k13); apply Takes.cons (by first | exact .here | exact k1 | exact k2 | exact k3 | exact k4 | exact k5 | exact k6 | exact k7 | exact k8 | exact k9 | exact k10 | exact k11 | exact k12 | exact k13); exact .nil _) (setR_c r j q t pad rn tok c 4 hc) ?_)
    rintro v st rfl
    have hsl := Sv.set_len rn c 4
    refine aops_nil ?_
    refine awp_block ?_
    refine awp_seq ?_
    refine awp_region ?_
    refine st_p (fun _ => by exact y_move (.plain rfl)) rfl ?_
    first | refine st_p (fun _ => by exact y_nilPtr (.plain rfl)) rfl ?_ | refine st_p (fun _ => by exact y_nilE (.plain rfl)) rfl ?_
    refine st_p (fun _ => by exact y_fieldPtr (.plain rfl)) rfl ?_
    refine st_p (fun _ => by exact y_fieldPtr (.plain rfl)) rfl ?_
    refine st_p (fun _ => by exact y_load (.plain rfl) (by first | exact .here | exact k1 | exact k2 | exact k3 | exact k4 | exact k5 | exact k6 | exact k7 | exact k8 | exact k9 | exact k10 | exact k11 | exact k12 | exact k13) rfl) rfl ?_
    refine aops_call (blt_lt rfl) (.plain rfl) (.cons (.plain rfl) (.cons (.plain rfl) .nil)) (ACalls.then (ACalls.keep (by apply Takes.cons (by first | exact .here | exact k1 | exact k2 | exact k3 | exact k4 | exact k5 | exact k6 | exact k7 | exact k8 | exact k9 | exact k10 | exact k11 | exact k12 | exact k13); exact .nil _) (countA_c j pad (Sv.set rn c 4).1.children 2 (by omega))) ?_)
    refine st_p (fun _ => by exact y_gtr (.plain rfl) (.plain rfl)) rfl ?_
    refine st_p (fun _ => by exact y_assign (.plain rfl)) rfl ?_
    refine aops_nil ?_
    refine awp_cond rfl (fun h2 => ?_) (fun h2 => ?_)
    · skip
      try simp only [decide_eq_true_eq, decide_eq_false_iff_not, Bool.not_eq_true', Bool.not_eq_false', Bool.not_eq_true, Bool.not_eq_false, List.length_map, Int.ofNat_lt, Int.ofNat_le, Bool.or_eq_true, Bool.and_eq_true, Bool.or_eq_false_iff, Bool.and_eq_false_iff] at h2
      have hcn := h2
      refine awp_skip ?_
      have e0 : (if rn.1.status = 2 ∧ Sv.polic q c ≠ 3 then Sv.set rn c 4 else Sv.set rn c 3) = (Sv.set rn c 4) := if_pos hst
      have e1 : Sv.stopping q t rn c = (Sv.set rn c 4) := by
        unfold Sv.stopping
        rw [e0]
        exact if_pos hcn
      exact retG (.inl rfl) .nil (VShift.of2 (st' := [.cells r [.int (Sv.stopping q t rn c).1.status, .arr j 0 (Sv.stopping q t rn c).1.children.length, .sl 1 ((Sv.stopping q t rn c).1.restarts.map encI), .bool (Sv.stopping q t rn c).1.failed, .int q.strategy, .int q.intensity, .int q.window, .sl 3 (q.children.map encCh), .int t, .grow 4 tok ((Sv.stopping q t rn c).2.map encEv)], .cells j (((Sv.stopping q t rn c).1.children.map encCs).flatten ++ pad), .tail tok]) (AV.Imp.refl _) (by rw [e1]; (repeat (first | exact .refl _ | exact .nil _ | apply ItLe2.cons (by first | exact .here | exact k1 | exact k2 | exact k3 | exact k4 | exact k5 | exact k6 | exact k7 | exact k8 | exact k9 | exact k10 | exact k11 | exact k12 | exact k13) | apply ItLe2.cells (by first | exact .here | exact k1 | exact k2 | exact k3 | exact k4 | exact k5 | exact k6 | exact k7 | exact k8 | exact k9 | exact k10 | exact k11 | exact k12 | exact k13) (by repeat (first | exact .nil | refine .cons (by first | exact AV.Imp.refl _ | exact Sl.imp | exact AV.Imp.agg RowOf.imp | exact AV.Imp.grow_sl | exact AV.Imp.nil_grow | exact AV.Imp.full_grow | exact AV.Imp.own_grow | exact AV.Imp.grow_of rfl | exact AV.Imp.sl_of rfl | exact AV.Imp.int_of (by omega) | exact AV.Imp.of_eq (by first | omega | simpa)) ?_)) | apply ItLe2.tail0)); done)) ⟨tok, rfl⟩
    · skip
      try simp only [decide_eq_true_eq, decide_eq_false_iff_not, Bool.not_eq_true', Bool.not_eq_false', Bool.not_eq_true, Bool.not_eq_false, List.length_map, Int.ofNat_lt, Int.ofNat_le, Bool.or_eq_true, Bool.and_eq_true, Bool.or_eq_false_iff, Bool.and_eq_false_iff] at h2
      have hcn := h2
      refine awp_seq ?_
      refine awp_region ?_
      refine st_p (fun _ => by exact y_move (.plain rfl)) rfl ?_
      first | refine st_p (fun _ => by exact y_nilPtr (.plain rfl)) rfl ?_ | refine st_p (fun _ => by exact y_nilE (.plain rfl)) rfl ?_
      refine st_p (fun _ => by exact y_fieldPtr (.plain rfl)) rfl ?_
      refine st_p (fun _ => by exact y_fieldPtr (.plain rfl)) rfl ?_
      refine st_p (fun _ => by exact y_load (.plain rfl) (by first | exact .here | exact k1 | exact k2 | exact k3 | exact k4 | exact k5 | exact k6 | exact k7 | exact k8 | exact k9 | exact k10 | exact k11 | exact k12 | exact k13) rfl) rfl ?_
      refine st_p (fun _ => by exact y_eql (.plain rfl) (.plain rfl)) rfl ?_
      refine st_p (fun _ => by exact y_assign (.plain rfl)) rfl ?_
      refine aops_nil ?_
      refine awp_cond rfl (fun h3 => ?_) (fun h3 => ?_)
      · skip
        try simp only [decide_eq_true_eq, decide_eq_false_iff_not, Bool.not_eq_true', Bool.not_eq_false', Bool.not_eq_true, Bool.not_eq_false, List.length_map, Int.ofNat_lt, Int.ofNat_le, Bool.or_eq_true, Bool.and_eq_true, Bool.or_eq_false_iff, Bool.and_eq_false_iff] at h3
        have hs2 := h3
        refine awp_region ?_
        refine st_p (fun _ => by exact y_move (.plain rfl)) rfl ?_
        refine aops_call (blt_lt rfl) (.plain rfl) (.cons (.plain rfl) .nil) (ACalls.updP (by apply Takes.cons (by first | exact .here | exact k1 | exact k2 | exact k3 | exact k4 | exact k5 | exact k6 | exact k7 | exact k8 | exact k9 | exact k10 | exact k11 | exact k12 | exact k13); apply Takes.cons (by first | exact .here | exact k1 | exact k2 | exact k3 | exact k4 | exact k5 | exact k6 | exact k7 | exact k8 | exact k9 | exact k10 | exact k11 | exact k12 | exact k13); apply Takes.cons (by first | exact .here | exact k1 | exact k2 | exact k3 | exact k4 | exact k5 | exact k6 | exact k7 | exact k8 | exact k9 | exact k10 | exact k11 | exact k12 | exact k13); exact .nil _) (again_c r j q t pad (Sv.set rn c 4) tok (by rw [Sv.set_len]; omega) (by show rn.2.length ≤ _; omega) (hsb.set c 4)) ?_)
        rintro v st ⟨tk1, rfl⟩
        refine aops_nil ?_
        have e0 : (if rn.1.status = 2 ∧ Sv.polic q c ≠ 3 then Sv.set rn c 4 else Sv.set rn c 3) = (Sv.set rn c 4) := if_pos hst
        have e1 : Sv.stopping q t rn c = Sv.again t (Sv.set rn c 4) := by
          unfold Sv.stopping
          rw [e0]
          exact (if_neg hcn).trans (if_pos hs2)
        exact retG (.inl rfl) .nil (VShift.of2 (st' := [.cells r [.int (Sv.stopping q t rn c).1.status, .arr j 0 (Sv.stopping q t rn c).1.children.length, .sl 1 ((Sv.stopping q t rn c).1.restarts.map encI), .bool (Sv.stopping q t rn c).1.failed, .int q.strategy, .int q.intensity, .int q.window, .sl 3 (q.children.map encCh), .int t, .grow 4 tk1 ((Sv.stopping q t rn c).2.map encEv)], .cells j (((Sv.stopping q t rn c).1.children.map encCs).flatten ++ pad), .tail tk1]) (AV.Imp.refl _) (by rw [e1]; (repeat (first | exact .refl _ | exact .nil _ | apply ItLe2.cons (by first | exact .here | exact k1 | exact k2 | exact k3 | exact k4 | exact k5 | exact k6 | exact k7 | exact k8 | exact k9 | exact k10 | exact k11 | exact k12 | exact k13) | apply ItLe2.cells (by first | exact .here | exact k1 | exact k2 | exact k3 | exact k4 | exact k5 | exact k6 | exact k7 | exact k8 | exact k9 | exact k10 | exact k11 | exact k12 | exact k13) (by repeat (first | exact .nil | refine .cons (by first | exact AV.Imp.refl _ | exact Sl.imp | exact AV.Imp.agg RowOf.imp | exact AV.Imp.grow_sl | exact AV.Imp.nil_grow | exact AV.Imp.full_grow | exact AV.Imp.own_grow | exact AV.Imp.grow_of rfl | exact AV.Imp.sl_of rfl | exact AV.Imp.int_of (by omega) | exact AV.Imp.of_eq (by first | omega | simpa)) ?_)) | apply ItLe2.tail0)); done)) ⟨tk1, rfl⟩
      · skip
        try simp only [decide_eq_true_eq, decide_eq_false_iff_not, Bool.not_eq_true', Bool.not_eq_false', Bool.not_eq_true, Bool.not_eq_false, List.length_map, Int.ofNat_lt, Int.ofNat_le, Bool.or_eq_true, Bool.and_eq_true, Bool.or_eq_false_iff, Bool.and_eq_false_iff] at h3
        have hs2 := h3
        refine awp_region ?_
        refine st_p (fun _ => by exact y_move (.plain rfl)) rfl ?_
        refine aops_call (blt_lt rfl) (.plain rfl) (.cons (.plain rfl) .nil) (ACalls.updP (by apply Takes.cons (by first | exact .here | exact k1 | exact k2 | exact k3 | exact k4 | exact k5 | exact k6 | exact k7 | exact k8 | exact k9 | exact k10 | exact k11 | exact k12 | exact k13); apply Takes.cons (by first | exact .here | exact k1 | exact k2 | exact k3 | exact k4 | exact k5 | exact k6 | exact k7 | exact k8 | exact k9 | exact k10 | exact k11 | exact k12 | exact k13); apply Takes.cons (by first | exact .here | exact k1 | exact k2 | exact k3 | exact k4 | exact k5 | exact k6 | exact k7 | exact k8 | exact k9 | exact k10 | exact k11 | exact k12 | exact k13); exact .nil _) (ended_c r j q t pad (Sv.set rn c 4) tok (by show rn.2.length ≤ _; omega)) ?_)
        rintro v st ⟨tk1, rfl⟩
        refine aops_nil ?_
        have e0 : (if rn.1.status = 2 ∧ Sv.polic q c ≠ 3 then Sv.set rn c 4 else Sv.set rn c 3) = (Sv.set rn c 4) := if_pos hst
        have e1 : Sv.stopping q t rn c = Sv.ended t (Sv.set rn c 4) := by
          unfold Sv.stopping
          rw [e0]
          exact (if_neg hcn).trans (if_neg hs2)
        exact retG (.inl rfl) .nil (VShift.of2 (st' := [.cells r [.int (Sv.stopping q t rn c).1.status, .arr j 0 (Sv.stopping q t rn c).1.children.length, .sl 1 ((Sv.stopping q t rn c).1.restarts.map encI), .bool (Sv.stopping q t rn c).1.failed, .int q.strategy, .int q.intensity, .int q.window, .sl 3 (q.children.map encCh), .int t, .grow 4 tk1 ((Sv.stopping q t rn c).2.map encEv)], .cells j (((Sv.stopping q t rn c).1.children.map encCs).flatten ++ pad), .tail tk1]) (AV.Imp.refl _) (by rw [e1]; (repeat (first | exact .refl _ | exact .nil _ | apply ItLe2.cons (by first | exact .here | exact k1 | exact k2 | exact k3 | exact k4 | exact k5 | exact k6 | exact k7 | exact k8 | exact k9 | exact k10 | exact k11 | exact k12 | exact k13) | apply ItLe2.cells (by first | exact .here | exact k1 | exact k2 | exact k3 | exact k4 | exact k5 | exact k6 | exact k7 | exact k8 | exact k9 | exact k10 | exact k11 | exact k12 | exact k13) (by repeat (first | exact .nil | refine .cons (by first | exact AV.Imp.refl _ | exact Sl.imp | exact AV.Imp.agg RowOf.imp | exact AV.Imp.grow_sl | exact AV.Imp.nil_grow | exact AV.Imp.full_grow | exact AV.Imp.own_grow | exact AV.Imp.grow_of rfl | exact AV.Imp.sl_of rfl | exact AV.Imp.int_of (by omega) | exact AV.Imp.of_eq (by first | omega | simpa)) ?_)) | apply ItLe2.tail0)); done)) ⟨tk1, rfl⟩
  · skip
    try simp only [decide_eq_true_eq, decide_eq_false_iff_not, Bool.not_eq_true', Bool.not_eq_false', Bool.not_eq_true, Bool.not_eq_false, List.length_map, Int.ofNat_lt, Int.ofNat_le, Bool.or_eq_true, Bool.and_eq_true, Bool.or_eq_false_iff, Bool.and_eq_false_iff] at h1
    have hst : ¬ (rn.1.status = 2 ∧ Sv.polic q c ≠ 3) := by
      rintro ⟨h, h9⟩
      simp_all [Sv.polic]
    refine awp_region ?_
    refine st_p (fun _ => by exact y_move (.plain rfl)) rfl ?_
    refine st_p (fun _ => by exact y_move (.plain rfl)) rfl ?_
    refine aops_call (blt_lt rfl) (.plain rfl) (.cons (.plain rfl) (.cons (.plain rfl) (.cons (.plain rfl) .nil))) (ACalls.updP (by apply Takes.cons (by first | exact .here | exact k1 | exact k2 | exact k3 | exact k4 | exact k5 | exact k6 | exact k7 | exact k8 | exact k9 | exact k10 | exact k11 | exact k12 | exact k13); apply Takes.cons (by first | exact .here | exact k1 | exact k2 | exact k3 | exact k4 | exact k5 | exact k6 | exact k7 | exact k8 | exact k9 | exact k10 | exact k11 | exact k12 | exact k13); apply Takes.cons (by first | exact .here | exact k1 | exact k2 | exact k3 | exact k4 | exact k5 | exact k6 | exact k7 | exact k8 | exact k9 | exact k10 | exact k11 | exact k12 | exact k13); exact .nil _) (setR_c r j q t pad rn tok c 3 hc) ?_)
    rintro v st rfl
    have hsl := Sv.set_len rn c 3
    refine aops_nil ?_
    refine awp_block ?_
    refine awp_seq ?_
    refine awp_region ?_
    refine st_p (fun _ => by exact y_move (.plain rfl)) rfl ?_
    first | refine st_p (fun _ => by exact y_nilPtr (.plain rfl)) rfl ?_ | refine st_p (fun _ => by exact y_nilE (.plain rfl)) rfl ?_
    refine st_p (fun _ => by exact y_fieldPtr (.plain rfl)) rfl ?_
    refine st_p (fun _ => by exact y_fieldPtr (.plain rfl)) rfl ?_
    refine st_p (fun _ => by exact y_load (.plain rfl) (by first | exact .here | exact k1 | exact k2 | exact k3 | exact k4 | exact k5 | exact k6 | exact k7 | exact k8 | exact k9 | exact k10 | exact k11 | exact k12 | exact k13) rfl) rfl ?_
    refine aops_call (blt_lt rfl) (.plain rfl) (.cons (.plain rfl) (.cons (.plain rfl) .nil)) (ACalls.then (ACalls.keep (by apply Takes.cons (by first | exact .here | exact k1 | exact k2 | exact k3 | exact k4 | exact k5 | exact k6 | exact k7 | exact k8 | exact k9 | exact k10 | exact k11 | exact k12 | exact k13); exact .nil _) (countA_c j pad (Sv.set rn c 3).1.children 2 (by omega))) ?_)
    refine st_p (fun _ => by exact y_gtr (.plain rfl) (.plain rfl)) rfl ?_
    refine st_p (fun _ => by exact y_assign (.plain rfl)) rfl ?_
    refine aops_nil ?_
    refine awp_cond rfl (fun h4 => ?_) (fun h4 => ?_)
    · skip
      try simp only [decide_eq_true_eq, decide_eq_false_iff_not, Bool.not_eq_true', Bool.not_eq_false', Bool.not_eq_true, Bool.not_eq_false, List.length_map, Int.ofNat_lt, Int.ofNat_le, Bool.or_eq_true, Bool.and_eq_true, Bool.or_eq_false_iff, Bool.and_eq_false_iff] at h4
      have hcn := h4
      refine awp_skip ?_
      have e0 : (if rn.1.status = 2 ∧ Sv.polic q c ≠ 3 then Sv.set rn c 4 else Sv.set rn c 3) = (Sv.set rn c 3) := if_neg hst
      have e1 : Sv.stopping q t rn c = (Sv.set rn c 3) := by
        unfold Sv.stopping
        rw [e0]
        exact if_pos hcn
      exact retG (.inl rfl) .nil (VShift.of2 (st' := [.cells r [.int (Sv.stopping q t rn c).1.status, .arr j 0 (Sv.stopping q t rn c).1.children.length, .sl 1 ((Sv.stopping q t rn c).1.restarts.map encI), .bool (Sv.stopping q t rn c).1.failed, .int q.strategy, .int q.intensity, .int q.window, .sl 3 (q.children.map encCh), .int t, .grow 4 tok ((Sv.stopping q t rn c).2.map encEv)], .cells j (((Sv.stopping q t rn c).1.children.map encCs).flatten ++ pad), .tail tok]) (AV.Imp.refl _) (by rw [e1]; (repeat (first | exact .refl _ | exact .nil _ | apply ItLe2.cons (by first | exact .here | exact k1 | exact k2 | exact k3 | exact k4 | exact k5 | exact k6 | exact k7 | exact k8 | exact k9 | exact k10 | exact k11 | exact k12 | exact k13) | apply ItLe2.cells (by first | exact .here | exact k1 | exact k2 | exact k3 | exact k4 | exact k5 | exact k6 | exact k7 | exact k8 | exact k9 | exact k10 | exact k11 | exact k12 | exact k13) (by repeat (first | exact .nil | refine .cons (by first | exact AV.Imp.refl _ | exact Sl.imp | exact AV.Imp.agg RowOf.imp | exact AV.Imp.grow_sl | exact AV.Imp.nil_grow | exact AV.Imp.full_grow | exact AV.Imp.own_grow | exact AV.Imp.grow_of rfl | exact AV.Imp.sl_of rfl | exact AV.Imp.int_of (by omega) | exact AV.Imp.of_eq (by first | omega | simpa)) ?_)) | apply ItLe2.tail0)); done)) ⟨tok, rfl⟩
    · skip
      try simp only [decide_eq_true_eq, decide_eq_false_iff_not, Bool.not_eq_true', Bool.not_eq_false', Bool.not_eq_true, Bool.not_eq_false, List.length_map, Int.ofNat_lt, Int.ofNat_le, Bool.or_eq_true, Bool.and_eq_true, Bool.or_eq_false_iff, Bool.and_eq_false_iff] at h4
      have hcn := h4
      refine awp_seq ?_
      refine awp_region ?_
      refine st_p (fun _ => by exact y_move (.plain rfl)) rfl ?_
      first | refine st_p (fun _ => by exact y_nilPtr (.plain rfl)) rfl ?_ | refine st_p (fun _ => by exact y_nilE (.plain rfl)) rfl ?_
      refine st_p (fun _ => by exact y_fieldPtr (.plain rfl)) rfl ?_
      refine st_p (fun _ => by exact y_fieldPtr (.plain rfl)) rfl ?_
      refine st_p (fun _ => by exact y_load (.plain rfl) (by first | exact .here | exact k1 | exact k2 | exact k3 | exact k4 | exact k5 | exact k6 | exact k7 | exact k8 | exact k9 | exact k10 | exact k11 | exact k12 | exact k13) rfl) rfl ?_
      refine st_p (fun _ => by exact y_eql (.plain rfl) (.plain rfl)) rfl ?_
      refine st_p (fun _ => by exact y_assign (.plain rfl)) rfl ?_
      refine aops_nil ?_
      refine awp_cond rfl (fun h5 => ?_) (fun h5 => ?_)
      · skip
        try simp only [decide_eq_true_eq, decide_eq_false_iff_not, Bool.not_eq_true', Bool.not_eq_false', Bool.not_eq_true, Bool.not_eq_false, List.length_map, Int.ofNat_lt, Int.ofNat_le, Bool.or_eq_true, Bool.and_eq_true, Bool.or_eq_false_iff, Bool.and_eq_false_iff] at h5
        have hs2 := h5
        refine awp_region ?_
        refine st_p (fun _ => by exact y_move (.plain rfl)) rfl ?_
        refine aops_call (blt_lt rfl) (.plain rfl) (.cons (.plain rfl) .nil) (ACalls.updP (by apply Takes.cons (by first | exact .here | exact k1 | exact k2 | exact k3 | exact k4 | exact k5 | exact k6 | exact k7 | exact k8 | exact k9 | exact k10 | exact k11 | exact k12 | exact k13); apply Takes.cons (by first | exact .here | exact k1 | exact k2 | exact k3 | exact k4 | exact k5 | exact k6 | exact k7 | exact k8 | exact k9 | exact k10 | exact k11 | exact k12 | exact k13); apply Takes.cons (by first | exact .here | exact k1 | exact k2 | exact k3 | exact k4 | exact k5 | exact k6 | exact k7 | exact k8 | exact k9 | exact k10 | exact k11 | exact k12 | exact k13); exact .nil _) (again_c r j q t pad (Sv.set rn c 3) tok (by rw [Sv.set_len]; omega) (by show rn.2.length ≤ _; omega) (hsb.set c 3)) ?_)
        rintro v st ⟨tk1, rfl⟩
        refine aops_nil ?_
        have e0 : (if rn.1.status = 2 ∧ Sv.polic q c ≠ 3 then Sv.set rn c 4 else Sv.set rn c 3) = (Sv.set rn c 3) := if_neg hst
        have e1 : Sv.stopping q t rn c = Sv.again t (Sv.set rn c 3) := by
          unfold Sv.stopping
          rw [e0]
          exact (if_neg hcn).trans (if_pos hs2)
        exact retG (.inl rfl) .nil (VShift.of2 (st' := [.cells r [.int (Sv.stopping q t rn c).1.status, .arr j 0 (Sv.stopping q t rn c).1.children.length, .sl 1 ((Sv.stopping q t rn c).1.restarts.map encI), .bool (Sv.stopping q t rn c).1.failed, .int q.strategy, .int q.intensity, .int q.window, .sl 3 (q.children.map encCh), .int t, .grow 4 tk1 ((Sv.stopping q t rn c).2.map encEv)], .cells j (((Sv.stopping q t rn c).1.children.map encCs).flatten ++ pad), .tail tk1]) (AV.Imp.refl _) (by rw [e1]; (repeat (first | exact .refl _ | exact .nil _ | apply ItLe2.cons (by first | exact .here | exact k1 | exact k2 | exact k3 | exact k4 | exact k5 | exact k6 | exact k7 | exact k8 | exact k9 | exact k10 | exact k11 | exact k12 | exact k13) | apply ItLe2.cells (by first | exact .here | exact k1 | exact k2 | exact k3 | exact k4 | exact k5 | exact k6 | exact k7 | exact k8 | exact k9 | exact k10 | exact k11 | exact k12 | exact k13) (by repeat (first | exact .nil | refine .cons (by first | exact AV.Imp.refl _ | exact Sl.imp | exact AV.Imp.agg RowOf.imp | exact AV.Imp.grow_sl | exact AV.Imp.nil_grow | exact AV.Imp.full_grow | exact AV.Imp.own_grow | exact AV.Imp.grow_of rfl | exact AV.Imp.sl_of rfl | exact AV.Imp.int_of (by omega) | exact AV.Imp.of_eq (by first | omega | simpa)) ?_)) | apply ItLe2.tail0)); done)) ⟨tk1, rfl⟩
      · skip
        try simp only [decide_eq_true_eq, decide_eq_false_iff_not, Bool.not_eq_true', Bool.not_eq_false', Bool.not_eq_true, Bool.not_eq_false, List.length_map, Int.ofNat_lt, Int.ofNat_le, Bool.or_eq_true, Bool.and_eq_true, Bool.or_eq_false_iff, Bool.and_eq_false_iff] at h5
        have hs2 := h5
        refine awp_region ?_
        refine st_p (fun _ => by exact y_move (.plain rfl)) rfl ?_
        refine aops_call (blt_lt rfl) (.plain rfl) (.cons (.plain rfl) .nil) (ACalls.updP (by apply Takes.cons (by first | exact .here | exact k1 | exact k2 | exact k3 | exact k4 | exact k5 | exact k6 | exact k7 | exact k8 | exact k9 | exact k10 | exact k11 | exact k12 | exact k13); apply Takes.cons (by first | exact .here | exact k1 | exact k2 | exact k3 | exact k4 | exact k5 | exact k6 | exact k7 | exact k8 | exact k9 | exact k10 | exact k11 | exact k12 | exact k13); apply Takes.cons (by first | exact .here | exact k1 | exact k2 | exact k3 | exact k4 | exact k5 | exact k6 | exact k7 | exact k8 | exact k9 | exact k10 | exact k11 | exact k12 | exact k13); exact .nil _) (ended_c r j q t pad (Sv.set rn c 3) tok (by show rn.2.length ≤ _; omega)) ?_)
        rintro v st ⟨tk1, rfl⟩
        refine aops_nil ?_
        have e0 : (if rn.1.status = 2 ∧ Sv.polic q c ≠ 3 then Sv.set rn c 4 else Sv.set rn c 3) = (Sv.set rn c 3) := if_neg hst
        have e1 : Sv.stopping q t rn c = Sv.ended t (Sv.set rn c 3) := by
          unfold Sv.stopping
          rw [e0]
          exact (if_neg hcn).trans (if_neg hs2)
        exact retG (.inl rfl) .nil (VShift.of2 (st' := [.cells r [.int (Sv.stopping q t rn c).1.status, .arr j 0 (Sv.stopping q t rn c).1.children.length, .sl 1 ((Sv.stopping q t rn c).1.restarts.map encI), .bool (Sv.stopping q t rn c).1.failed, .int q.strategy, .int q.intensity, .int q.window, .sl 3 (q.children.map encCh), .int t, .grow 4 tk1 ((Sv.stopping q t rn c).2.map encEv)], .cells j (((Sv.stopping q t rn c).1.children.map encCs).flatten ++ pad), .tail tk1]) (AV.Imp.refl _) (by rw [e1]; (repeat (first | exact .refl _ | exact .nil _ | apply ItLe2.cons (by first | exact .here | exact k1 | exact k2 | exact k3 | exact k4 | exact k5 | exact k6 | exact k7 | exact k8 | exact k9 | exact k10 | exact k11 | exact k12 | exact k13) | apply ItLe2.cells (by first | exact .here | exact k1 | exact k2 | exact k3 | exact k4 | exact k5 | exact k6 | exact k7 | exact k8 | exact k9 | exact k10 | exact k11 | exact k12 | exact k13) (by repeat (first | exact .nil | refine .cons (by first | exact AV.Imp.refl _ | exact Sl.imp | exact AV.Imp.agg RowOf.imp | exact AV.Imp.grow_sl | exact AV.Imp.nil_grow | exact AV.Imp.full_grow | exact AV.Imp.own_grow | exact AV.Imp.grow_of rfl | exact AV.Imp.sl_of rfl | exact AV.Imp.int_of (by omega) | exact AV.Imp.of_eq (by first | omega | simpa)) ?_)) | apply ItLe2.tail0)); done)) ⟨tk1, rfl⟩

theorem exited_c (r j : Nat) (q : Sv.Spc) (t : Int) (pad : List AV) (rn : Sv.Rn) (tok : Option Nat) (hqc : q.children.length = rn.1.children.length) (hn : rn.1.children.length ≤ 16) (ho : rn.2.length ≤ 1000) (hsb : Sv.Sb rn) (hrl : rn.1.restarts.length ≤ 1000) (ht : 0 ≤ t ∧ t ≤ 1099511627776) (hw : 0 ≤ q.window ∧ q.window ≤ 1099511627776) (e : Sv.Evt) (hc : 0 ≤ e.child ∧ e.child < rn.1.children.length) : ACalls Try.prog 20 [.ptr r 0, .agg (encEv e)] [.cells r [.int rn.1.status, .arr j 0 rn.1.children.length, .sl 1 (rn.1.restarts.map encI), .bool rn.1.failed, .int q.strategy, .int q.intensity, .int q.window, .sl 3 (q.children.map encCh), .int t, .grow 4 tok (rn.2.map encEv)], .cells j ((rn.1.children.map encCs).flatten ++ pad), .tail tok] (fun y st => ∃ tk, st = [.cells r [.int (Sv.exited q t rn e.child e.value).1.status, .arr j 0 (Sv.exited q t rn e.child e.value).1.children.length, .sl 1 ((Sv.exited q t rn e.child e.value).1.restarts.map encI), .bool (Sv.exited q t rn e.child e.value).1.failed, .int q.strategy, .int q.intensity, .int q.window, .sl 3 (q.children.map encCh), .int t, .grow 4 tk ((Sv.exited q t rn e.child e.value).2.map encEv)], .cells j (((Sv.exited q t rn e.child e.value).1.children.map encCs).flatten ++ pad), .tail tk]) := by
  refine acalls_body Try.func20 (by kernel_rfl) rfl Try.ntmps20 (le_ rfl) ?_
  rw [Try.results20]
  refine awp_seq ?_
  refine awp_region ?_
  refine st_n (fun _ => by exact y_box (.plain rfl)) rfl fun n1 => ?_
  refine aops_nil ?_
  refine awp_seq ?_
  refine awp_seq ?_
  refine awp_any0 (ks := [.free, .free, .free, .free, .free, .free, .free, .free, .free, .free, .free]) (by kernel_rfl) (fun K => ?_) ?_
  · skip
    refine dr_p (fun _ => by exact y_move (.plain rfl)) rfl ?_
    first | refine dr_p (fun _ => by exact y_nilPtr (.plain rfl)) rfl ?_ | refine dr_p (fun _ => by exact y_nilE (.plain rfl)) rfl ?_
    refine dr_p (fun _ => by exact y_fieldPtr (.plain rfl)) rfl ?_
    refine dr_p (fun _ => by exact y_fieldPtr (.plain rfl)) rfl ?_
    refine dr_p (fun _ => by exact y_load (.plain rfl) (by first | exact .here | exact k1 | exact k2 | exact k3 | exact k4 | exact k5 | exact k6 | exact k7 | exact k8 | exact k9 | exact k10 | exact k11 | exact k12 | exact k13) rfl) rfl ?_
    refine dr_p (fun _ => by exact y_fieldPtr (.plain rfl)) rfl ?_
    refine dr_p (fun _ => by exact y_load (.plain rfl) (by first | exact .here | exact k1 | exact k2 | exact k3 | exact k4 | exact k5 | exact k6 | exact k7 | exact k8 | exact k9 | exact k10 | exact k11 | exact k12 | exact k13) rfl) rfl ?_
    refine dr_p (fun _ => by exact y_indexArr (.plain rfl) (.plain rfl) (Int.toNat_of_nonneg hc.1).symm (by omega)) rfl ?_
    refine dr_p (fun _ => by exact y_fieldPtr (.plain rfl)) rfl ?_
    refine dr_p (fun _ => by exact y_load (.plain rfl) (by first | exact .here | exact k1 | exact k2 | exact k3 | exact k4 | exact k5 | exact k6 | exact k7 | exact k8 | exact k9 | exact k10 | exact k11 | exact k12 | exact k13) (Sv.encCs_get (l := rn.1.children) (i := e.child.toNat) (by omega) pad)) rfl ?_
    refine dr_p (fun _ => by exact y_eql (.plain rfl) (.plain rfl)) rfl ?_
    refine dr_nil ⟨rfl, ?_⟩
    refine awp_cond rfl (fun h1 => ?_) (fun h1 => ?_)
    · skip
      try simp only [decide_eq_true_eq, decide_eq_false_iff_not, Bool.not_eq_true', Bool.not_eq_false', Bool.not_eq_true, Bool.not_eq_false, List.length_map, Int.ofNat_lt, Int.ofNat_le, Bool.or_eq_true, Bool.and_eq_true, Bool.or_eq_false_iff, Bool.and_eq_false_iff] at h1
      refine awp_seq ?_
      refine awp_region ?_
      refine st_p (fun _ => by exact y_move (.plain rfl)) rfl ?_
      refine st_p (fun _ => by exact y_fieldPtr (.plain rfl)) rfl ?_
      refine st_p (fun _ => by exact y_load (.plain rfl) (by first | exact .here | exact k1 | exact k2 | exact k3 | exact k4 | exact k5 | exact k6 | exact k7 | exact k8 | exact k9 | exact k10 | exact k11 | exact k12 | exact k13) rfl) rfl ?_
      refine st_p (fun _ => by exact y_fieldPtr (.plain rfl)) rfl ?_
      refine st_p (fun _ => by exact y_load (.plain rfl) (by first | exact .here | exact k1 | exact k2 | exact k3 | exact k4 | exact k5 | exact k6 | exact k7 | exact k8 | exact k9 | exact k10 | exact k11 | exact k12 | exact k13) rfl) rfl ?_
      refine aops_call (blt_lt rfl) (.plain rfl) (.cons (.plain rfl) (.cons (.plain rfl) (.cons (.plain rfl) .nil))) (ACalls.updP (by apply Takes.cons (by first | exact .here | exact k1 | exact k2 | exact k3 | exact k4 | exact k5 | exact k6 | exact k7 | exact k8 | exact k9 | exact k10 | exact k11 | exact k12 | exact k13); apply Takes.cons (by first | exact .here | exact k1 | exact k2 | exact k3 | exact k4 | exact k5 | exact k6 | exact k7 | exact k8 | exact k9 | exact k10 | exact k11 | exact k12 | exact k13); apply Takes.cons (by first | exact .here | exact k1 | exact k2 | exact k3 | exact k4 | exact k5 | exact k6 | exact k7 | exact k8 | exact k9 | exact k10 | exact k11 | exact k12 | exact k13); exact .nil _) (running_c r j q t pad rn tok hqc hn ho hsb hrl ht hw e.child hc e.value) ?_)
      rintro v st ⟨tk1, rfl⟩
      refine aops_nil ?_
      refine awp_ret ?_
      have e1 : (Sv.exited q t rn e.child e.value) = Sv.running q t rn e.child e.value := if_pos (by assumption)
      exact retG (.inr rfl) .nil (VShift.of2 (st' := [.cells r [.int (Sv.exited q t rn e.child e.value).1.status, .arr j 0 (Sv.exited q t rn e.child e.value).1.children.length, .sl 1 ((Sv.exited q t rn e.child e.value).1.restarts.map encI), .bool (Sv.exited q t rn e.child e.value).1.failed, .int q.strategy, .int q.intensity, .int q.window, .sl 3 (q.children.map encCh), .int t, .grow 4 tk1 ((Sv.exited q t rn e.child e.value).2.map encEv)], .cells j (((Sv.exited q t rn e.child e.value).1.children.map encCs).flatten ++ pad), .tail tk1]) (AV.Imp.refl _) (by rw [e1]; (repeat (first | exact .refl _ | exact .nil _ | apply ItLe2.cons (by first | exact .here | exact k1 | exact k2 | exact k3 | exact k4 | exact k5 | exact k6 | exact k7 | exact k8 | exact k9 | exact k10 | exact k11 | exact k12 | exact k13) | apply ItLe2.cells (by first | exact .here | exact k1 | exact k2 | exact k3 | exact k4 | exact k5 | exact k6 | exact k7 | exact k8 | exact k9 | exact k10 | exact k11 | exact k12 | exact k13) (by repeat (first | exact .nil | refine .cons (by first | exact AV.Imp.refl _ | exact Sl.imp | exact AV.Imp.agg RowOf.imp | exact AV.Imp.grow_sl | exact AV.Imp.nil_grow | exact AV.Imp.full_grow | exact AV.Imp.own_grow | exact AV.Imp.grow_of rfl | exact AV.Imp.sl_of rfl | exact AV.Imp.int_of (by omega) | exact AV.Imp.of_eq (by first | omega | simpa)) ?_)) | apply ItLe2.tail0)); done)) ⟨tk1, rfl⟩
    · skip
      try simp only [decide_eq_true_eq, decide_eq_false_iff_not, Bool.not_eq_true', Bool.not_eq_false', Bool.not_eq_true, Bool.not_eq_false, List.length_map, Int.ofNat_lt, Int.ofNat_le, Bool.or_eq_true, Bool.and_eq_true, Bool.or_eq_false_iff, Bool.and_eq_false_iff] at h1
      refine awp_skip ?_
      refine awp_region ?_
      refine st_p (fun _ => by exact y_move (.plain rfl)) rfl ?_
      refine st_p (fun _ => by exact y_fieldPtr (.plain rfl)) rfl ?_
      refine st_p (fun _ => by exact y_load (.plain rfl) (by first | exact .here | exact k1 | exact k2 | exact k3 | exact k4 | exact k5 | exact k6 | exact k7 | exact k8 | exact k9 | exact k10 | exact k11 | exact k12 | exact k13) rfl) rfl ?_
      refine aops_call (blt_lt rfl) (.plain rfl) (.cons (.plain rfl) (.cons (.plain rfl) .nil)) (ACalls.updP (by apply Takes.cons (by first | exact .here | exact k1 | exact k2 | exact k3 | exact k4 | exact k5 | exact k6 | exact k7 | exact k8 | exact k9 | exact k10 | exact k11 | exact k12 | exact k13); apply Takes.cons (by first | exact .here | exact k1 | exact k2 | exact k3 | exact k4 | exact k5 | exact k6 | exact k7 | exact k8 | exact k9 | exact k10 | exact k11 | exact k12 | exact k13); apply Takes.cons (by first | exact .here | exact k1 | exact k2 | exact k3 | exact k4 | exact k5 | exact k6 | exact k7 | exact k8 | exact k9 | exact k10 | exact k11 | exact k12 | exact k13); exact .nil _) (stopping_c r j q t pad rn tok hqc hn ho hsb hrl ht hw e.child hc) ?_)
      rintro v st ⟨tk1, rfl⟩
      refine aops_nil ?_
      have e1 : (Sv.exited q t rn e.child e.value) = Sv.stopping q t rn e.child := if_neg (by assumption)
      exact retG (.inl rfl) .nil (VShift.of2 (st' := [.cells r [.int (Sv.exited q t rn e.child e.value).1.status, .arr j 0 (Sv.exited q t rn e.child e.value).1.children.length, .sl 1 ((Sv.exited q t rn e.child e.value).1.restarts.map encI), .bool (Sv.exited q t rn e.child e.value).1.failed, .int q.strategy, .int q.intensity, .int q.window, .sl 3 (q.children.map encCh), .int t, .grow 4 tk1 ((Sv.exited q t rn e.child e.value).2.map encEv)], .cells j (((Sv.exited q t rn e.child e.value).1.children.map encCs).flatten ++ pad), .tail tk1]) (AV.Imp.refl _) (by rw [e1]; (repeat (first | exact .refl _ | exact .nil _ | apply ItLe2.cons (by first | exact .here | exact k1 | exact k2 | exact k3 | exact k4 | exact k5 | exact k6 | exact k7 | exact k8 | exact k9 | exact k10 | exact k11 | exact k12 | exact k13) | apply ItLe2.cells (by first | exact .here | exact k1 | exact k2 | exact k3 | exact k4 | exact k5 | exact k6 | exact k7 | exact k8 | exact k9 | exact k10 | exact k11 | exact k12 | exact k13) (by repeat (first | exact .nil | refine .cons (by first | exact AV.Imp.refl _ | exact Sl.imp | exact AV.Imp.agg RowOf.imp | exact AV.Imp.grow_sl | exact AV.Imp.nil_grow | exact AV.Imp.full_grow | exact AV.Imp.own_grow | exact AV.Imp.grow_of rfl | exact AV.Imp.sl_of rfl | exact AV.Imp.int_of (by omega) | exact AV.Imp.of_eq (by first | omega | simpa)) ?_)) | apply ItLe2.tail0)); done)) ⟨tk1, rfl⟩
  · kernel_rfl

theorem asked_c (r j : Nat) (q : Sv.Spc) (t : Int) (pad : List AV) (rn : Sv.Rn) (tok : Option Nat) (hn : rn.1.children.length ≤ 16) (ho : rn.2.length ≤ 1000) (e : Sv.Evt) : ACalls Try.prog 21 [.ptr r 0, .agg (encEv e)] [.cells r [.int rn.1.status, .arr j 0 rn.1.children.length, .sl 1 (rn.1.restarts.map encI), .bool rn.1.failed, .int q.strategy, .int q.intensity, .int q.window, .sl 3 (q.children.map encCh), .int t, .grow 4 tok (rn.2.map encEv)], .cells j ((rn.1.children.map encCs).flatten ++ pad), .tail tok] (fun y st => ∃ tk, st = [.cells r [.int (Sv.asked t rn).1.status, .arr j 0 (Sv.asked t rn).1.children.length, .sl 1 ((Sv.asked t rn).1.restarts.map encI), .bool (Sv.asked t rn).1.failed, .int q.strategy, .int q.intensity, .int q.window, .sl 3 (q.children.map encCh), .int t, .grow 4 tk ((Sv.asked t rn).2.map encEv)], .cells j (((Sv.asked t rn).1.children.map encCs).flatten ++ pad), .tail tk]) := by
  refine acalls_body Try.func21 (by kernel_rfl) rfl Try.ntmps21 (le_ rfl) ?_
  rw [Try.results21]
  refine awp_seq ?_
  refine awp_region ?_
  refine st_n (fun _ => by exact y_box (.plain rfl)) rfl fun n1 => ?_
  refine aops_nil ?_
  refine awp_seq ?_
  refine awp_region ?_
  refine st_p (fun _ => by exact y_move (.plain rfl)) rfl ?_
  first | refine st_p (fun _ => by exact y_nilPtr (.plain rfl)) rfl ?_ | refine st_p (fun _ => by exact y_nilE (.plain rfl)) rfl ?_
  refine st_p (fun _ => by exact y_fieldPtr (.plain rfl)) rfl ?_
  refine st_p (fun _ => by exact y_fieldPtr (.plain rfl)) rfl ?_
  refine st_p (fun _ => by exact y_load (.plain rfl) (by first | exact .here | exact k1 | exact k2 | exact k3 | exact k4 | exact k5 | exact k6 | exact k7 | exact k8 | exact k9 | exact k10 | exact k11 | exact k12 | exact k13) rfl) rfl ?_
  refine st_p (fun _ => by exact y_neq (.plain rfl) (.plain rfl)) rfl ?_
  refine aops_nil ?_
  refine awp_cond rfl (fun h1 => ?_) (fun h1 => ?_)
  · skip
    try simp only [decide_eq_true_eq, decide_eq_false_iff_not, Bool.not_eq_true', Bool.not_eq_false', Bool.not_eq_true, Bool.not_eq_false, List.length_map, Int.ofNat_lt, Int.ofNat_le, Bool.or_eq_true, Bool.and_eq_true, Bool.or_eq_false_iff, Bool.and_eq_false_iff] at h1
    refine awp_region ?_
    refine st_p (fun _ => by exact y_move (.plain rfl)) rfl ?_
    refine aops_call (blt_lt rfl) (.plain rfl) (.cons (.plain rfl) .nil) (ACalls.updP (by apply Takes.cons (by first | exact .here | exact k1 | exact k2 | exact k3 | exact k4 | exact k5 | exact k6 | exact k7 | exact k8 | exact k9 | exact k10 | exact k11 | exact k12 | exact k13); apply Takes.cons (by first | exact .here | exact k1 | exact k2 | exact k3 | exact k4 | exact k5 | exact k6 | exact k7 | exact k8 | exact k9 | exact k10 | exact k11 | exact k12 | exact k13); apply Takes.cons (by first | exact .here | exact k1 | exact k2 | exact k3 | exact k4 | exact k5 | exact k6 | exact k7 | exact k8 | exact k9 | exact k10 | exact k11 | exact k12 | exact k13); exact .nil _) (shut_c r j q t pad rn tok (by omega) (by omega)) ?_)
    rintro v st ⟨tk1, rfl⟩
    refine aops_nil ?_
    have e1 : (Sv.asked t rn) = Sv.shut t rn := if_pos (by first | assumption | simp_all)
    exact retG (.inl rfl) .nil (VShift.of2 (st' := [.cells r [.int (Sv.asked t rn).1.status, .arr j 0 (Sv.asked t rn).1.children.length, .sl 1 ((Sv.asked t rn).1.restarts.map encI), .bool (Sv.asked t rn).1.failed, .int q.strategy, .int q.intensity, .int q.window, .sl 3 (q.children.map encCh), .int t, .grow 4 tk1 ((Sv.asked t rn).2.map encEv)], .cells j (((Sv.asked t rn).1.children.map encCs).flatten ++ pad), .tail tk1]) (AV.Imp.refl _) (by rw [e1]; (repeat (first | exact .refl _ | exact .nil _ | apply ItLe2.cons (by first | exact .here | exact k1 | exact k2 | exact k3 | exact k4 | exact k5 | exact k6 | exact k7 | exact k8 | exact k9 | exact k10 | exact k11 | exact k12 | exact k13) | apply ItLe2.cells (by first | exact .here | exact k1 | exact k2 | exact k3 | exact k4 | exact k5 | exact k6 | exact k7 | exact k8 | exact k9 | exact k10 | exact k11 | exact k12 | exact k13) (by repeat (first | exact .nil | refine .cons (by first | exact AV.Imp.refl _ | exact Sl.imp | exact AV.Imp.agg RowOf.imp | exact AV.Imp.grow_sl | exact AV.Imp.nil_grow | exact AV.Imp.full_grow | exact AV.Imp.own_grow | exact AV.Imp.grow_of rfl | exact AV.Imp.sl_of rfl | exact AV.Imp.int_of (by omega) | exact AV.Imp.of_eq (by first | omega | simpa)) ?_)) | apply ItLe2.tail0)); done)) ⟨tk1, rfl⟩
  · skip
    try simp only [decide_eq_true_eq, decide_eq_false_iff_not, Bool.not_eq_true', Bool.not_eq_false', Bool.not_eq_true, Bool.not_eq_false, List.length_map, Int.ofNat_lt, Int.ofNat_le, Bool.or_eq_true, Bool.and_eq_true, Bool.or_eq_false_iff, Bool.and_eq_false_iff] at h1
    refine awp_skip ?_
    have e1 : (Sv.asked t rn) = rn := if_neg (by simp_all)
    exact retG (.inl rfl) .nil (VShift.of2 (st' := [.cells r [.int (Sv.asked t rn).1.status, .arr j 0 (Sv.asked t rn).1.children.length, .sl 1 ((Sv.asked t rn).1.restarts.map encI), .bool (Sv.asked t rn).1.failed, .int q.strategy, .int q.intensity, .int q.window, .sl 3 (q.children.map encCh), .int t, .grow 4 tok ((Sv.asked t rn).2.map encEv)], .cells j (((Sv.asked t rn).1.children.map encCs).flatten ++ pad), .tail tok]) (AV.Imp.refl _) (by rw [e1]; (repeat (first | exact .refl _ | exact .nil _ | apply ItLe2.cons (by first | exact .here | exact k1 | exact k2 | exact k3 | exact k4 | exact k5 | exact k6 | exact k7 | exact k8 | exact k9 | exact k10 | exact k11 | exact k12 | exact k13) | apply ItLe2.cells (by first | exact .here | exact k1 | exact k2 | exact k3 | exact k4 | exact k5 | exact k6 | exact k7 | exact k8 | exact k9 | exact k10 | exact k11 | exact k12 | exact k13) (by repeat (first | exact .nil | refine .cons (by first | exact AV.Imp.refl _ | exact Sl.imp | exact AV.Imp.agg RowOf.imp | exact AV.Imp.grow_sl | exact AV.Imp.nil_grow | exact AV.Imp.full_grow | exact AV.Imp.own_grow | exact AV.Imp.grow_of rfl | exact AV.Imp.sl_of rfl | exact AV.Imp.int_of (by omega) | exact AV.Imp.of_eq (by first | omega | simpa)) ?_)) | apply ItLe2.tail0)); done)) ⟨tok, rfl⟩

end Go.Proofs
