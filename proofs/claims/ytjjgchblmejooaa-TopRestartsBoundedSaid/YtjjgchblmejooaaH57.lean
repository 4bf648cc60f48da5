/- Handle. -/
import Derived.Test.YtjjgchblmejooaaF57
set_option linter.unusedVariables false
set_option linter.unusedSimpArgs false
set_option maxRecDepth 10000
namespace Go.Proofs
open Go.Aw Wl Sv
instance : MapT Try.prog 63 62 := ⟨⟨3, by kernel_rfl, by kernel_rfl⟩⟩
theorem handle_c (q : Sv.Spc) (s : Sv.Ss) (e : Sv.Evt) (hl : q.children.length ≤ 1000) (hz : ∀ c ∈ q.children, c.name.size ≤ 1000000) (hsl : s.children.length ≤ 1000) (hrl : s.restarts.length ≤ 1000) (hw : 0 ≤ q.window ∧ q.window ≤ 1099511627776) (htr : ∀ t ∈ s.restarts, 0 ≤ t ∧ t ≤ 1099511627776) : ACalls Try.prog 13 [(AV.agg (encSp q)), (AV.agg (encSs s)), (AV.agg (encEv e))] [] (fun v st => v = (AV.tup [(AV.agg (encSs ((Sv.handle q s e).1))), (AV.sl 4 (List.map encEv ((Sv.handle q s e).2.1))), (AV.int ((Sv.handle q s e).2.2))]) ∧ st = []) := by
  refine acalls_body Try.func13 (by kernel_rfl) rfl Try.ntmps13 (le_ rfl) ?_
  rw [Try.results13]
  refine awp_seq ?_
  refine awp_region ?_
  refine st_n (fun _ => by exact y_box (.plain rfl)) rfl fun n3 => ?_
  refine st_n (fun _ => by exact y_box (.plain rfl)) rfl fun n4 => ?_
  refine st_n (fun _ => by exact y_box (.plain rfl)) rfl fun n5 => ?_
  refine st_n (fun _ => by exact y_alloc) rfl fun n6 => ?_
  refine st_p (fun _ => by exact y_assign (.plain rfl)) rfl ?_
  refine st_p (fun _ => by exact y_assign (.plain rfl)) rfl ?_
  refine aops_nil ?_
  refine awp_seq ?_
  refine awp_seq ?_
  refine awp_region ?_
  refine st_p (fun _ => by exact y_loadW (.plain rfl) (by first | exact .here | exact k1 | exact k2 | exact k3 | exact k4 | exact k5 | exact k6 | exact k7 | exact k8 | exact k9 | exact k10 | exact k11 | exact k12 | exact k13) (by rfl)) rfl ?_
  refine st_p (fun _ => by exact y_loadW (.plain rfl) (by first | exact .here | exact k1 | exact k2 | exact k3 | exact k4 | exact k5 | exact k6 | exact k7 | exact k8 | exact k9 | exact k10 | exact k11 | exact k12 | exact k13) (by rfl)) rfl ?_
  refine aops_call (blt_lt rfl) (.plain rfl) (.cons (.imp (.plain rfl) (AV.Imp.agg (RowOf.imp (enc := encSp)))) (.cons (.imp (.plain rfl) (AV.Imp.agg (RowOf.imp (enc := encSs)))) .nil)) (ACalls.here (valid_c q s (by omega) hz (by omega) (by omega) hw htr) ?_)
  refine st_p (fun _ => by exact y_neq (.plain rfl) (.plain rfl)) rfl ?_
  refine aops_nil ?_
  refine awp_cond rfl (fun h1 => ?_) (fun h1 => ?_)
  · skip
    try simp only [decide_eq_true_eq, decide_eq_false_iff_not, Bool.not_eq_true', Bool.not_eq_false', Bool.not_eq_true, Bool.not_eq_false, List.length_map, Int.ofNat_lt, Int.ofNat_le, Bool.or_eq_true, Bool.and_eq_true, Bool.or_eq_false_iff, Bool.and_eq_false_iff] at h1
    refine awp_seq ?_
    refine awp_region ?_
    refine st_p (fun _ => by exact y_build (out := [_, _, _, _]) .nil rfl rfl) rfl ?_
    refine st_s (fun _ => by exact y_storeW (by rfl) rfl (.plain rfl) (.plain rfl) (by first | exact .here | exact u1 | exact u2 | exact u3 | exact u4 | exact u5 | exact u6 | exact u7 | exact u8 | exact u9 | exact u10 | exact u11 | exact u12 | exact u13) (by rfl)) ?_
    refine st_p (fun _ => by exact y_assign (.plain rfl)) rfl ?_
    refine st_p (fun _ => by exact y_assign (.plain rfl)) rfl ?_
    refine aops_nil ?_
    refine awp_ret ?_
    refine retG (.inr rfl) (.cons (res_cellW rfl (by first | exact .here | exact k1 | exact k2 | exact k3 | exact k4 | exact k5 | exact k6 | exact k7 | exact k8 | exact k9 | exact k10 | exact k11 | exact k12 | exact k13) (by rfl)) (.cons (.tmp rfl) (.cons (.tmp rfl) .nil))) (VShift.of2 (AV.Imp.tup (.cons (AV.Imp.agg (RowOf.imp (enc := encSs))) (.cons (Sl.imp (enc := encEv)) (.cons (AV.Imp.refl _) .nil)))) (.nil _)) ⟨congrArg (fun x : (Sv.Ss) × (List (Sv.Evt)) × (Int) => (AV.tup [(AV.agg (encSs x.1)), (AV.sl 4 (List.map encEv x.2.1)), (AV.int x.2.2)])) (show (_, _, _) = (Sv.handle q s e) from ?_), rfl⟩
    rw [Sv.handle, if_pos (show Sv.valid q s ≠ 0 by omega)]
    all_goals rfl
  · skip
    try simp only [decide_eq_true_eq, decide_eq_false_iff_not, Bool.not_eq_true', Bool.not_eq_false', Bool.not_eq_true, Bool.not_eq_false, List.length_map, Int.ofNat_lt, Int.ofNat_le, Bool.or_eq_true, Bool.and_eq_true, Bool.or_eq_false_iff, Bool.and_eq_false_iff] at h1
    obtain ⟨hv1, hv2, hv3, hv4⟩ := Sv.valid_ok (x := q) (s := s) (by omega)
    have hcq := Sv.chk_ok hv1
    have hclen := hcq.len
    obtain ⟨hsq, hsst⟩ := Sv.children_ok hv2
    refine awp_skip ?_
    refine awp_seq ?_
    refine awp_seq ?_
    refine awp_region ?_
    refine st_p (fun _ => by exact y_loadW (.plain rfl) (by first | exact .here | exact k1 | exact k2 | exact k3 | exact k4 | exact k5 | exact k6 | exact k7 | exact k8 | exact k9 | exact k10 | exact k11 | exact k12 | exact k13) (by rfl)) rfl ?_
    refine st_p (fun _ => by exact y_loadW (.plain rfl) (by first | exact .here | exact k1 | exact k2 | exact k3 | exact k4 | exact k5 | exact k6 | exact k7 | exact k8 | exact k9 | exact k10 | exact k11 | exact k12 | exact k13) (by rfl)) rfl ?_
    refine st_p (fun _ => by exact y_loadW (.plain rfl) (by first | exact .here | exact k1 | exact k2 | exact k3 | exact k4 | exact k5 | exact k6 | exact k7 | exact k8 | exact k9 | exact k10 | exact k11 | exact k12 | exact k13) (by rfl)) rfl ?_
    refine aops_call (blt_lt rfl) (.plain rfl) (.cons (.imp (.plain rfl) (AV.Imp.agg (RowOf.imp (enc := encSp)))) (.cons (.imp (.plain rfl) (AV.Imp.agg (RowOf.imp (enc := encSs)))) (.cons (.imp (.plain rfl) (AV.Imp.agg (RowOf.imp (enc := encEv)))) .nil))) (ACalls.here (evchk_c q s e hl hsq (by omega)) ?_)
    refine st_p (fun _ => by exact y_assign (.plain rfl)) rfl ?_
    refine aops_nil ?_
    refine awp_seq ?_
    refine awp_region ?_
    refine st_p (fun _ => by exact y_move (.plain rfl)) rfl ?_
    refine st_p (fun _ => by exact y_neq (.plain rfl) (.plain rfl)) rfl ?_
    refine aops_nil ?_
    refine awp_cond rfl (fun h2 => ?_) (fun h2 => ?_)
    · skip
      try simp only [decide_eq_true_eq, decide_eq_false_iff_not, Bool.not_eq_true', Bool.not_eq_false', Bool.not_eq_true, Bool.not_eq_false, List.length_map, Int.ofNat_lt, Int.ofNat_le, Bool.or_eq_true, Bool.and_eq_true, Bool.or_eq_false_iff, Bool.and_eq_false_iff] at h2
      refine awp_seq ?_
      refine awp_region ?_
      refine st_p (fun _ => by exact y_build (out := [_, _, _, _]) .nil rfl rfl) rfl ?_
      refine st_p (fun _ => by exact y_move (.plain rfl)) rfl ?_
      refine st_s (fun _ => by exact y_storeW (by rfl) rfl (.plain rfl) (.plain rfl) (by first | exact .here | exact u1 | exact u2 | exact u3 | exact u4 | exact u5 | exact u6 | exact u7 | exact u8 | exact u9 | exact u10 | exact u11 | exact u12 | exact u13) (by rfl)) ?_
      refine st_p (fun _ => by exact y_assign (.plain rfl)) rfl ?_
      refine st_p (fun _ => by exact y_assign (.plain rfl)) rfl ?_
      refine aops_nil ?_
      refine awp_ret ?_
      refine retG (.inr rfl) (.cons (res_cellW rfl (by first | exact .here | exact k1 | exact k2 | exact k3 | exact k4 | exact k5 | exact k6 | exact k7 | exact k8 | exact k9 | exact k10 | exact k11 | exact k12 | exact k13) (by rfl)) (.cons (.tmp rfl) (.cons (.tmp rfl) .nil))) (VShift.of2 (AV.Imp.tup (.cons (AV.Imp.agg (RowOf.imp (enc := encSs))) (.cons (Sl.imp (enc := encEv)) (.cons (AV.Imp.refl _) .nil)))) (.nil _)) ⟨congrArg (fun x : (Sv.Ss) × (List (Sv.Evt)) × (Int) => (AV.tup [(AV.agg (encSs x.1)), (AV.sl 4 (List.map encEv x.2.1)), (AV.int x.2.2)])) (show (_, _, _) = (Sv.handle q s e) from ?_), rfl⟩
      rw [Sv.handle, if_neg (show ¬ (Sv.valid q s ≠ 0) by omega), if_pos (show Sv.check q s e ≠ 0 by omega)]
      all_goals rfl
    · skip
      try simp only [decide_eq_true_eq, decide_eq_false_iff_not, Bool.not_eq_true', Bool.not_eq_false', Bool.not_eq_true, Bool.not_eq_false, List.length_map, Int.ofNat_lt, Int.ofNat_le, Bool.or_eq_true, Bool.and_eq_true, Bool.or_eq_false_iff, Bool.and_eq_false_iff] at h2
      obtain ⟨hke, hkc, ht⟩ := Sv.check_ok (x := q) (s := s) (e := e) (by omega)
      refine awp_skip ?_
      refine awp_seq ?_
      refine awp_region ?_
      refine st_p (fun _ => by exact y_loadW (.plain rfl) (by first | exact .here | exact k1 | exact k2 | exact k3 | exact k4 | exact k5 | exact k6 | exact k7 | exact k8 | exact k9 | exact k10 | exact k11 | exact k12 | exact k13) (by rfl)) rfl ?_
      refine st_p (fun _ => by exact y_loadW (.plain rfl) (by first | exact .here | exact k1 | exact k2 | exact k3 | exact k4 | exact k5 | exact k6 | exact k7 | exact k8 | exact k9 | exact k10 | exact k11 | exact k12 | exact k13) (by rfl)) rfl ?_
      refine st_p (fun _ => by exact y_fieldPtr (.plain rfl)) rfl ?_
      refine st_p (fun _ => by exact y_load (.plain rfl) (by first | exact .here | exact k1 | exact k2 | exact k3 | exact k4 | exact k5 | exact k6 | exact k7 | exact k8 | exact k9 | exact k10 | exact k11 | exact k12 | exact k13) rfl) rfl ?_
      refine st_p (fun _ => by exact y_build (out := [_, _, _, _, _, _, _, _, _, _]) (.cons (.plain rfl) inferInstance rfl (.cons (.plain rfl) inferInstance rfl (.cons (.plain rfl) inferInstance rfl .nil))) rfl rfl) rfl ?_
      refine st_n (fun _ => by exact y_box (.plain rfl)) rfl fun nr => ?_
      refine st_p (fun _ => by exact y_assign (.plain rfl)) rfl ?_
      refine aops_nil ?_
      refine awp_seq ?_
      refine awp_region ?_
      refine st_p (fun _ => by exact y_move (.plain rfl)) rfl ?_
      refine st_p (fun _ => by exact y_fieldPtr (.plain rfl)) rfl ?_
      refine st_p (fun _ => by exact y_load (.plain rfl) (by first | exact .here | exact k1 | exact k2 | exact k3 | exact k4 | exact k5 | exact k6 | exact k7 | exact k8 | exact k9 | exact k10 | exact k11 | exact k12 | exact k13) rfl) rfl ?_
      refine aops_call (blt_lt rfl) (.plain rfl) (.cons (.plain rfl) .nil) (ACalls.updP (its := []) (.nil _) (cloneA_c s.children (by intro e0; rw [e0] at hsq; simp at hsq; omega) (by omega)) ?_)
      rintro v st ⟨nj, pad, rfl, rfl⟩
      first | refine st_p (fun _ => by exact y_nilPtr (.plain rfl)) rfl ?_ | refine st_p (fun _ => by exact y_nilE (.plain rfl)) rfl ?_
      refine st_p (fun _ => by exact y_fieldPtr (.plain rfl)) rfl ?_
      refine st_p (fun _ => by exact y_fieldPtr (.plain rfl)) rfl ?_
      refine st_storeN (cs' := [_, _, _, _, _, _, _, _, _, _]) (by rfl) rfl (.plain rfl) (.plain rfl) (by first | exact .here | exact u1 | exact u2 | exact u3 | exact u4 | exact u5 | exact u6 | exact u7 | exact u8 | exact u9 | exact u10 | exact u11 | exact u12 | exact u13) (le_ rfl) (by rfl) ?_
      refine aops_nil ?_
      refine awp_seq ?_
      refine awp_region ?_
      refine st_n (fun _ => by exact y_makeMap) rfl fun nm => ?_
      refine st_p (fun _ => by exact y_move (.plain rfl)) rfl ?_
      refine st_p (fun _ => by exact y_bound (.cons (.plain rfl) .nil)) rfl ?_
      refine st_s (fun _ => by exact y_mapSet (.plain rfl) (.plain rfl) (.plain rfl) (.inr rfl) (by first | exact .here | exact u1 | exact u2 | exact u3 | exact u4 | exact u5 | exact u6 | exact u7 | exact u8 | exact u9 | exact u10 | exact u11 | exact u12 | exact u13)) ?_
      refine st_p (fun _ => by exact y_move (.plain rfl)) rfl ?_
      refine st_p (fun _ => by exact y_bound (.cons (.plain rfl) .nil)) rfl ?_
      refine st_s (fun _ => by exact y_mapSet (.plain rfl) (.plain rfl) (.plain rfl) (.inr rfl) (by first | exact .here | exact u1 | exact u2 | exact u3 | exact u4 | exact u5 | exact u6 | exact u7 | exact u8 | exact u9 | exact u10 | exact u11 | exact u12 | exact u13)) ?_
      refine st_p (fun _ => by exact y_move (.plain rfl)) rfl ?_
      refine st_p (fun _ => by exact y_assign (.plain rfl)) rfl ?_
      refine aops_nil ?_
      refine awp_seq ?_
      rcases hke with hek | hek
      · skip
        refine awp_weak (Weak.trans Weak.tail0 (Weak.items2 (st' := [.cells nr [.int ((s, ([] : List Sv.Evt)) : Sv.Rn).1.status, .arr nj 0 ((s, ([] : List Sv.Evt)) : Sv.Rn).1.children.length, .sl 1 (((s, ([] : List Sv.Evt)) : Sv.Rn).1.restarts.map encI), .bool ((s, ([] : List Sv.Evt)) : Sv.Rn).1.failed, .int q.strategy, .int q.intensity, .int q.window, .sl 3 (q.children.map encCh), .int e.time, .grow 4 none (((s, ([] : List Sv.Evt)) : Sv.Rn).2.map encEv)], .cells nj ((((s, ([] : List Sv.Evt)) : Sv.Rn).1.children.map encCs).flatten ++ pad), .tail none, .map nm _, .cells n6 _, .cells n5 (encEv e)]) (by (repeat (first | exact .refl _ | exact .nil _ | apply ItLe2.cons (by first | exact .here | exact k1 | exact k2 | exact k3 | exact k4 | exact k5 | exact k6 | exact k7 | exact k8 | exact k9 | exact k10 | exact k11 | exact k12 | exact k13) | apply ItLe2.cells (by first | exact .here | exact k1 | exact k2 | exact k3 | exact k4 | exact k5 | exact k6 | exact k7 | exact k8 | exact k9 | exact k10 | exact k11 | exact k12 | exact k13) (by repeat (first | exact .nil | refine .cons (by first | exact AV.Imp.refl _ | exact Sl.imp | exact AV.Imp.agg RowOf.imp | exact AV.Imp.grow_sl | exact AV.Imp.nil_grow | exact AV.Imp.full_grow | exact AV.Imp.own_grow | exact AV.Imp.grow_of rfl | exact AV.Imp.sl_of rfl | exact AV.Imp.int_of (by omega) | exact AV.Imp.of_eq (by first | omega | simpa)) ?_)) | apply ItLe2.tail0)); done))) ?_
        refine awp_region ?_
        refine st_p (fun _ => by exact y_move (.plain rfl)) rfl ?_
        refine st_p (fun _ => by exact y_fieldPtr (.plain rfl)) rfl ?_
        refine st_p (fun _ => by exact y_load (.plain rfl) (by first | exact .here | exact k1 | exact k2 | exact k3 | exact k4 | exact k5 | exact k6 | exact k7 | exact k8 | exact k9 | exact k10 | exact k11 | exact k12 | exact k13) rfl) rfl ?_
        refine st_p (fun _ => by exact y_lookup1 (v := .bnd 20 [.ptr nr 0]) (.plain rfl) (.plain rfl) (by first | exact .here | exact k1 | exact k2 | exact k3 | exact k4 | exact k5 | exact k6 | exact k7 | exact k8 | exact k9 | exact k10 | exact k11 | exact k12 | exact k13) (by rw [hek]; rfl)) rfl ?_
        refine st_p (fun _ => by exact y_loadW (.plain rfl) (by first | exact .here | exact k1 | exact k2 | exact k3 | exact k4 | exact k5 | exact k6 | exact k7 | exact k8 | exact k9 | exact k10 | exact k11 | exact k12 | exact k13) (by rfl)) rfl ?_
        refine aops_callB (blt_lt rfl) (.plain rfl) (.cons (.plain rfl) .nil) (ACalls.updP (its := [.cells nr [.int ((s, ([] : List Sv.Evt)) : Sv.Rn).1.status, .arr nj 0 ((s, ([] : List Sv.Evt)) : Sv.Rn).1.children.length, .sl 1 (((s, ([] : List Sv.Evt)) : Sv.Rn).1.restarts.map encI), .bool ((s, ([] : List Sv.Evt)) : Sv.Rn).1.failed, .int q.strategy, .int q.intensity, .int q.window, .sl 3 (q.children.map encCh), .int e.time, .grow 4 none (((s, ([] : List Sv.Evt)) : Sv.Rn).2.map encEv)], .cells nj ((((s, ([] : List Sv.Evt)) : Sv.Rn).1.children.map encCs).flatten ++ pad), .tail none]) (by apply Takes.cons (by first | exact .here | exact k1 | exact k2 | exact k3 | exact k4 | exact k5 | exact k6 | exact k7 | exact k8 | exact k9 | exact k10 | exact k11 | exact k12 | exact k13); apply Takes.cons (by first | exact .here | exact k1 | exact k2 | exact k3 | exact k4 | exact k5 | exact k6 | exact k7 | exact k8 | exact k9 | exact k10 | exact k11 | exact k12 | exact k13); apply Takes.cons (by first | exact .here | exact k1 | exact k2 | exact k3 | exact k4 | exact k5 | exact k6 | exact k7 | exact k8 | exact k9 | exact k10 | exact k11 | exact k12 | exact k13); exact .nil _) (exited_c nr nj q e.time pad (s, []) none (by show q.children.length = s.children.length; omega) (by show s.children.length ≤ 16; omega) (by simp) (fun c hc => by have := hsst c hc; omega) hrl ht hw e (by have := hkc hek; show 0 ≤ e.child ∧ e.child < (s.children.length : Int); omega)) ?_)
        rintro v st ⟨tk, rfl⟩
        refine aops_nil ?_
        refine awp_seq ?_
        refine awp_weak (Weak.freezeC (cs := [.int (Sv.exited q e.time (s, []) e.child e.value).1.status, .arr nj 0 (Sv.exited q e.time (s, []) e.child e.value).1.children.length, .sl 1 ((Sv.exited q e.time (s, []) e.child e.value).1.restarts.map encI), .bool (Sv.exited q e.time (s, []) e.child e.value).1.failed, .int q.strategy, .int q.intensity, .int q.window, .sl 3 (q.children.map encCh), .int e.time, .grow 4 tk ((Sv.exited q e.time (s, []) e.child e.value).2.map encEv)]) (i := 1) (sz := 2) (xs := (Sv.exited q e.time (s, []) e.child e.value).1.children.map encCs) (pad := pad) (by intro x hx; obtain ⟨b, _, rfl⟩ := List.mem_map.1 hx; rfl) (by rw [List.length_map]; rfl) (.cons (.there .here) (.cons .here (.nil _)))) ?_
        refine awp_weak (Weak.items2 (st' := [.cells nr [.int (Sv.exited q e.time (s, []) e.child e.value).1.status, .sl 2 ((Sv.exited q e.time (s, []) e.child e.value).1.children.map encCs), .sl 1 ((Sv.exited q e.time (s, []) e.child e.value).1.restarts.map encI), .bool (Sv.exited q e.time (s, []) e.child e.value).1.failed, .int q.strategy, .int q.intensity, .int q.window, .sl 3 (q.children.map encCh), .int e.time, .grow 4 tk ((Sv.exited q e.time (s, []) e.child e.value).2.map encEv)], .cells n6 _]) (by (repeat (first | exact .refl _ | exact .nil _ | apply ItLe2.cons (by first | exact .here | exact k1 | exact k2 | exact k3 | exact k4 | exact k5 | exact k6 | exact k7 | exact k8 | exact k9 | exact k10 | exact k11 | exact k12 | exact k13) | apply ItLe2.cells (by first | exact .here | exact k1 | exact k2 | exact k3 | exact k4 | exact k5 | exact k6 | exact k7 | exact k8 | exact k9 | exact k10 | exact k11 | exact k12 | exact k13) (by repeat (first | exact .nil | refine .cons (by first | exact AV.Imp.refl _ | exact Sl.imp | exact AV.Imp.agg RowOf.imp | exact AV.Imp.grow_sl | exact AV.Imp.nil_grow | exact AV.Imp.full_grow | exact AV.Imp.own_grow | exact AV.Imp.grow_of rfl | exact AV.Imp.sl_of rfl | exact AV.Imp.int_of (by omega) | exact AV.Imp.of_eq (by first | omega | simpa)) ?_)) | apply ItLe2.tail0)); done)) ?_
        refine awp_anyT (ks := [.free, .free, .free, .free, .free, .free, .free, .free, .write, .free, .free]) [.cells n6 _] (by apply Takes.cons (by first | exact .here | exact k1 | exact k2 | exact k3 | exact k4 | exact k5 | exact k6 | exact k7 | exact k8 | exact k9 | exact k10 | exact k11 | exact k12 | exact k13); exact .nil _) (by kernel_rfl) (fun K => ?_) ?_
        · skip
          refine dr_p (fun _ => by exact y_move (.plain rfl)) rfl ?_
          first | refine dr_p (fun _ => by exact y_nilPtr (.plain rfl)) rfl ?_ | refine dr_p (fun _ => by exact y_nilE (.plain rfl)) rfl ?_
          refine dr_p (fun _ => by exact y_fieldPtr (.plain rfl)) rfl ?_
          refine dr_p (fun _ => by exact y_loadAggN (cs' := [_, _, _, _]) (.plain rfl) (by first | exact .here | exact k1 | exact k2 | exact k3 | exact k4 | exact k5 | exact k6 | exact k7 | exact k8 | exact k9 | exact k10 | exact k11 | exact k12 | exact k13) (le_ rfl) (by rfl)) rfl ?_
          refine dr_p (fun _ => by exact y_move (.plain rfl)) rfl ?_
          first | refine dr_p (fun _ => by exact y_nilPtr (.plain rfl)) rfl ?_ | refine dr_p (fun _ => by exact y_nilE (.plain rfl)) rfl ?_
          refine dr_p (fun _ => by exact y_fieldPtr (.plain rfl)) rfl ?_
          refine dr_p (fun _ => by exact y_load (.plain rfl) (by first | exact .here | exact k1 | exact k2 | exact k3 | exact k4 | exact k5 | exact k6 | exact k7 | exact k8 | exact k9 | exact k10 | exact k11 | exact k12 | exact k13) rfl) rfl ?_
          refine dr_s (fun _ => by exact y_storeW (by rfl) rfl (.plain rfl) (.plain rfl) (by first | exact .here | exact u1 | exact u2 | exact u3 | exact u4 | exact u5 | exact u6 | exact u7 | exact u8 | exact u9 | exact u10 | exact u11 | exact u12 | exact u13) (by rfl)) ?_
          refine dr_p (fun _ => by exact y_assign (.plain rfl)) rfl ?_
          refine dr_p (fun _ => by exact y_assign (.plain rfl)) rfl ?_
          refine dr_nil ?_
          refine awp_ret ?_
          refine retG (.inr rfl) (.cons (res_cellW rfl (by first | exact .here | exact k1 | exact k2 | exact k3 | exact k4 | exact k5 | exact k6 | exact k7 | exact k8 | exact k9 | exact k10 | exact k11 | exact k12 | exact k13) (by rfl)) (.cons (.tmp rfl) (.cons (.tmp rfl) .nil))) (VShift.of2 (AV.Imp.tup (.cons (AV.Imp.agg (RowOf.imp (enc := encSs))) (.cons (Sl.imp (enc := encEv)) (.cons (AV.Imp.refl _) .nil)))) (.nil _)) ⟨congrArg (fun x : (Sv.Ss) × (List (Sv.Evt)) × (Int) => (AV.tup [(AV.agg (encSs x.1)), (AV.sl 4 (List.map encEv x.2.1)), (AV.int x.2.2)])) (show (_, _, _) = (Sv.handle q s e) from ?_), rfl⟩
          rw [Sv.handle, if_neg (show ¬ (Sv.valid q s ≠ 0) by omega), if_neg (show ¬ (Sv.check q s e ≠ 0) by omega), if_pos hek]
          all_goals rfl
        · kernel_rfl
      · skip
        refine awp_weak (Weak.trans Weak.tail0 (Weak.items2 (st' := [.cells nr [.int ((s, ([] : List Sv.Evt)) : Sv.Rn).1.status, .arr nj 0 ((s, ([] : List Sv.Evt)) : Sv.Rn).1.children.length, .sl 1 (((s, ([] : List Sv.Evt)) : Sv.Rn).1.restarts.map encI), .bool ((s, ([] : List Sv.Evt)) : Sv.Rn).1.failed, .int q.strategy, .int q.intensity, .int q.window, .sl 3 (q.children.map encCh), .int e.time, .grow 4 none (((s, ([] : List Sv.Evt)) : Sv.Rn).2.map encEv)], .cells nj ((((s, ([] : List Sv.Evt)) : Sv.Rn).1.children.map encCs).flatten ++ pad), .tail none, .map nm _, .cells n6 _, .cells n5 (encEv e)]) (by (repeat (first | exact .refl _ | exact .nil _ | apply ItLe2.cons (by first | exact .here | exact k1 | exact k2 | exact k3 | exact k4 | exact k5 | exact k6 | exact k7 | exact k8 | exact k9 | exact k10 | exact k11 | exact k12 | exact k13) | apply ItLe2.cells (by first | exact .here | exact k1 | exact k2 | exact k3 | exact k4 | exact k5 | exact k6 | exact k7 | exact k8 | exact k9 | exact k10 | exact k11 | exact k12 | exact k13) (by repeat (first | exact .nil | refine .cons (by first | exact AV.Imp.refl _ | exact Sl.imp | exact AV.Imp.agg RowOf.imp | exact AV.Imp.grow_sl | exact AV.Imp.nil_grow | exact AV.Imp.full_grow | exact AV.Imp.own_grow | exact AV.Imp.grow_of rfl | exact AV.Imp.sl_of rfl | exact AV.Imp.int_of (by omega) | exact AV.Imp.of_eq (by first | omega | simpa)) ?_)) | apply ItLe2.tail0)); done))) ?_
        refine awp_region ?_
        refine st_p (fun _ => by exact y_move (.plain rfl)) rfl ?_
        refine st_p (fun _ => by exact y_fieldPtr (.plain rfl)) rfl ?_
        refine st_p (fun _ => by exact y_load (.plain rfl) (by first | exact .here | exact k1 | exact k2 | exact k3 | exact k4 | exact k5 | exact k6 | exact k7 | exact k8 | exact k9 | exact k10 | exact k11 | exact k12 | exact k13) rfl) rfl ?_
        refine st_p (fun _ => by exact y_lookup1 (v := .bnd 21 [.ptr nr 0]) (.plain rfl) (.plain rfl) (by first | exact .here | exact k1 | exact k2 | exact k3 | exact k4 | exact k5 | exact k6 | exact k7 | exact k8 | exact k9 | exact k10 | exact k11 | exact k12 | exact k13) (by rw [hek]; rfl)) rfl ?_
        refine st_p (fun _ => by exact y_loadW (.plain rfl) (by first | exact .here | exact k1 | exact k2 | exact k3 | exact k4 | exact k5 | exact k6 | exact k7 | exact k8 | exact k9 | exact k10 | exact k11 | exact k12 | exact k13) (by rfl)) rfl ?_
        refine aops_callB (blt_lt rfl) (.plain rfl) (.cons (.plain rfl) .nil) (ACalls.updP (its := [.cells nr [.int ((s, ([] : List Sv.Evt)) : Sv.Rn).1.status, .arr nj 0 ((s, ([] : List Sv.Evt)) : Sv.Rn).1.children.length, .sl 1 (((s, ([] : List Sv.Evt)) : Sv.Rn).1.restarts.map encI), .bool ((s, ([] : List Sv.Evt)) : Sv.Rn).1.failed, .int q.strategy, .int q.intensity, .int q.window, .sl 3 (q.children.map encCh), .int e.time, .grow 4 none (((s, ([] : List Sv.Evt)) : Sv.Rn).2.map encEv)], .cells nj ((((s, ([] : List Sv.Evt)) : Sv.Rn).1.children.map encCs).flatten ++ pad), .tail none]) (by apply Takes.cons (by first | exact .here | exact k1 | exact k2 | exact k3 | exact k4 | exact k5 | exact k6 | exact k7 | exact k8 | exact k9 | exact k10 | exact k11 | exact k12 | exact k13); apply Takes.cons (by first | exact .here | exact k1 | exact k2 | exact k3 | exact k4 | exact k5 | exact k6 | exact k7 | exact k8 | exact k9 | exact k10 | exact k11 | exact k12 | exact k13); apply Takes.cons (by first | exact .here | exact k1 | exact k2 | exact k3 | exact k4 | exact k5 | exact k6 | exact k7 | exact k8 | exact k9 | exact k10 | exact k11 | exact k12 | exact k13); exact .nil _) (asked_c nr nj q e.time pad (s, []) none (by show s.children.length ≤ 16; omega) (by simp) e) ?_)
        rintro v st ⟨tk, rfl⟩
        refine aops_nil ?_
        refine awp_seq ?_
        refine awp_weak (Weak.freezeC (cs := [.int (Sv.asked e.time (s, [])).1.status, .arr nj 0 (Sv.asked e.time (s, [])).1.children.length, .sl 1 ((Sv.asked e.time (s, [])).1.restarts.map encI), .bool (Sv.asked e.time (s, [])).1.failed, .int q.strategy, .int q.intensity, .int q.window, .sl 3 (q.children.map encCh), .int e.time, .grow 4 tk ((Sv.asked e.time (s, [])).2.map encEv)]) (i := 1) (sz := 2) (xs := (Sv.asked e.time (s, [])).1.children.map encCs) (pad := pad) (by intro x hx; obtain ⟨b, _, rfl⟩ := List.mem_map.1 hx; rfl) (by rw [List.length_map]; rfl) (.cons (.there .here) (.cons .here (.nil _)))) ?_
        refine awp_weak (Weak.items2 (st' := [.cells nr [.int (Sv.asked e.time (s, [])).1.status, .sl 2 ((Sv.asked e.time (s, [])).1.children.map encCs), .sl 1 ((Sv.asked e.time (s, [])).1.restarts.map encI), .bool (Sv.asked e.time (s, [])).1.failed, .int q.strategy, .int q.intensity, .int q.window, .sl 3 (q.children.map encCh), .int e.time, .grow 4 tk ((Sv.asked e.time (s, [])).2.map encEv)], .cells n6 _]) (by (repeat (first | exact .refl _ | exact .nil _ | apply ItLe2.cons (by first | exact .here | exact k1 | exact k2 | exact k3 | exact k4 | exact k5 | exact k6 | exact k7 | exact k8 | exact k9 | exact k10 | exact k11 | exact k12 | exact k13) | apply ItLe2.cells (by first | exact .here | exact k1 | exact k2 | exact k3 | exact k4 | exact k5 | exact k6 | exact k7 | exact k8 | exact k9 | exact k10 | exact k11 | exact k12 | exact k13) (by repeat (first | exact .nil | refine .cons (by first | exact AV.Imp.refl _ | exact Sl.imp | exact AV.Imp.agg RowOf.imp | exact AV.Imp.grow_sl | exact AV.Imp.nil_grow | exact AV.Imp.full_grow | exact AV.Imp.own_grow | exact AV.Imp.grow_of rfl | exact AV.Imp.sl_of rfl | exact AV.Imp.int_of (by omega) | exact AV.Imp.of_eq (by first | omega | simpa)) ?_)) | apply ItLe2.tail0)); done)) ?_
        refine awp_anyT (ks := [.free, .free, .free, .free, .free, .free, .free, .free, .write, .free, .free]) [.cells n6 _] (by apply Takes.cons (by first | exact .here | exact k1 | exact k2 | exact k3 | exact k4 | exact k5 | exact k6 | exact k7 | exact k8 | exact k9 | exact k10 | exact k11 | exact k12 | exact k13); exact .nil _) (by kernel_rfl) (fun K => ?_) ?_
        · skip
          refine dr_p (fun _ => by exact y_move (.plain rfl)) rfl ?_
          first | refine dr_p (fun _ => by exact y_nilPtr (.plain rfl)) rfl ?_ | refine dr_p (fun _ => by exact y_nilE (.plain rfl)) rfl ?_
          refine dr_p (fun _ => by exact y_fieldPtr (.plain rfl)) rfl ?_
          refine dr_p (fun _ => by exact y_loadAggN (cs' := [_, _, _, _]) (.plain rfl) (by first | exact .here | exact k1 | exact k2 | exact k3 | exact k4 | exact k5 | exact k6 | exact k7 | exact k8 | exact k9 | exact k10 | exact k11 | exact k12 | exact k13) (le_ rfl) (by rfl)) rfl ?_
          refine dr_p (fun _ => by exact y_move (.plain rfl)) rfl ?_
          first | refine dr_p (fun _ => by exact y_nilPtr (.plain rfl)) rfl ?_ | refine dr_p (fun _ => by exact y_nilE (.plain rfl)) rfl ?_
          refine dr_p (fun _ => by exact y_fieldPtr (.plain rfl)) rfl ?_
          refine dr_p (fun _ => by exact y_load (.plain rfl) (by first | exact .here | exact k1 | exact k2 | exact k3 | exact k4 | exact k5 | exact k6 | exact k7 | exact k8 | exact k9 | exact k10 | exact k11 | exact k12 | exact k13) rfl) rfl ?_
          refine dr_s (fun _ => by exact y_storeW (by rfl) rfl (.plain rfl) (.plain rfl) (by first | exact .here | exact u1 | exact u2 | exact u3 | exact u4 | exact u5 | exact u6 | exact u7 | exact u8 | exact u9 | exact u10 | exact u11 | exact u12 | exact u13) (by rfl)) ?_
          refine dr_p (fun _ => by exact y_assign (.plain rfl)) rfl ?_
          refine dr_p (fun _ => by exact y_assign (.plain rfl)) rfl ?_
          refine dr_nil ?_
          refine awp_ret ?_
          refine retG (.inr rfl) (.cons (res_cellW rfl (by first | exact .here | exact k1 | exact k2 | exact k3 | exact k4 | exact k5 | exact k6 | exact k7 | exact k8 | exact k9 | exact k10 | exact k11 | exact k12 | exact k13) (by rfl)) (.cons (.tmp rfl) (.cons (.tmp rfl) .nil))) (VShift.of2 (AV.Imp.tup (.cons (AV.Imp.agg (RowOf.imp (enc := encSs))) (.cons (Sl.imp (enc := encEv)) (.cons (AV.Imp.refl _) .nil)))) (.nil _)) ⟨congrArg (fun x : (Sv.Ss) × (List (Sv.Evt)) × (Int) => (AV.tup [(AV.agg (encSs x.1)), (AV.sl 4 (List.map encEv x.2.1)), (AV.int x.2.2)])) (show (_, _, _) = (Sv.handle q s e) from ?_), rfl⟩
          rw [Sv.handle, if_neg (show ¬ (Sv.valid q s ≠ 0) by omega), if_neg (show ¬ (Sv.check q s e ≠ 0) by omega), if_neg (show ¬ e.kind = 1 by omega)]
          all_goals rfl
        · kernel_rfl

end Go.Proofs
