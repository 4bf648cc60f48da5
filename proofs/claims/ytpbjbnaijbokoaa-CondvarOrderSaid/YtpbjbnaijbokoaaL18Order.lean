/- CondvarOrder answers true for every input, and its arguments read as they did: the given statement CondvarOrderSaid. No condition. -/
import Derived.Test.YtpbjbnaijbokoaaD18
import Derived.Test.YtpbjbnaijbokoaaRows
set_option linter.unusedVariables false
set_option linter.unusedSimpArgs false
set_option maxRecDepth 10000
namespace Go.Proofs
open Go.Aw Wl
theorem orderLaw_c (l : List Cl)  : ACalls Try.prog 10 [(AV.sl 5 (List.map encC l))] [] (fun v st => v = (AV.bool (true)) ∧ st = []) := by
  refine acalls_body Try.func10 (by kernel_rfl) rfl Try.ntmps10 (le_ rfl) ?_
  rw [Try.results10]
  refine awp_seq ?_
  refine awp_region ?_
  refine st_p (fun _ => by exact y_assign (.plain rfl)) rfl ?_
  refine aops_nil ?_
  refine awp_seq ?_
  refine awp_region ?_
  refine aops_call (blt_lt rfl) (.plain rfl) .nil (ACalls.here (object_c) ?_)
  refine aops_call (blt_lt rfl) (.plain rfl) (.cons (.imp (.plain rfl) (AV.Imp.agg (RowOf.imp (enc := encO)))) .nil) (ACalls.here (new_c _) ?_)
  refine st_p (fun _ => by exact y_move (.plain rfl)) rfl ?_
  refine st_p (fun _ => by exact y_extract (.plain rfl) rfl) rfl ?_
  refine st_p (fun _ => by exact y_extract (.plain rfl) rfl) rfl ?_
  refine st_n (fun _ => by exact y_alloc) rfl fun n1 => ?_
  refine st_s (fun _ => by exact y_storeW (by rfl) rfl (.plain rfl) (.plain rfl) (by first | exact .here | exact u1 | exact u2 | exact u3 | exact u4 | exact u5 | exact u6 | exact u7 | exact u8 | exact u9 | exact u10 | exact u11 | exact u12 | exact u13) (by rfl)) ?_
  refine st_p (fun _ => by exact y_assign (.plain rfl)) rfl ?_
  refine aops_nil ?_
  refine awp_seq ?_
  refine awp_seq ?_
  refine awp_region ?_
  refine st_p (fun _ => by exact y_move (.plain rfl)) rfl ?_
  first | refine st_p (fun _ => by exact y_lenN (.plain rfl)) rfl ?_ | refine st_p (fun _ => by exact y_len (.plain rfl)) rfl ?_ | refine st_p (fun _ => by exact y_lenArr (.plain rfl)) rfl ?_
  refine st_p (fun _ => by exact y_gtr (.plain rfl) (.plain rfl)) rfl ?_
  refine st_p (fun _ => by exact y_move (.plain rfl)) rfl ?_
  refine st_g rfl rfl rfl SaysI.out (fun hc _ => by exact y_move (.plain rfl)) rfl ?_
  refine st_g rfl rfl rfl SaysI.out (fun hc _ => by exact y_neq (.opt rfl hc) (.plain rfl)) rfl ?_
  refine st_p (fun _ => by exact y_or (.plain rfl) rfl rfl) rfl ?_
  refine aops_nil ?_
  refine awp_cond rfl (fun h1 => ?_) (fun h1 => ?_)
  · skip
    try simp only [decide_eq_true_eq, decide_eq_false_iff_not, Bool.not_eq_true', Bool.not_eq_false', Bool.not_eq_true, Bool.not_eq_false, List.length_map, Int.ofNat_lt, Int.ofNat_le, Bool.or_eq_true, Bool.and_eq_true, Bool.or_eq_false_iff, Bool.and_eq_false_iff] at h1
    refine awp_seq ?_
    refine awp_region ?_
    refine st_p (fun _ => by exact y_move (.plain rfl)) rfl ?_
    refine st_p (fun _ => by exact y_eql (.plain rfl) (.plain rfl)) rfl ?_
    refine st_p (fun _ => by exact y_move (.plain rfl)) rfl ?_
    refine st_g rfl rfl rfl SaysI.out (fun hc _ => by exact y_call (.plain rfl) .nil (ACalls.pure (awake_c))) rfl ?_
    refine st_p (fun _ => by exact y_and (.plain rfl) rfl rfl) rfl ?_
    refine st_p (fun _ => by exact y_assign (.plain rfl)) rfl ?_
    refine aops_nil ?_
    refine awp_ret ?_
    refine retG (.inr rfl) (.cons (.tmp rfl) .nil) (VShift.of1 (AV.Imp.refl _) (.nil _)) ⟨congrArg (fun x : (Bool) => (AV.bool x)) (show _ = (true) from ?_), rfl⟩
    simp [Cv.obj_new]
  · skip
    try simp only [decide_eq_true_eq, decide_eq_false_iff_not, Bool.not_eq_true', Bool.not_eq_false', Bool.not_eq_true, Bool.not_eq_false, List.length_map, Int.ofNat_lt, Int.ofNat_le, Bool.or_eq_true, Bool.and_eq_true, Bool.or_eq_false_iff, Bool.and_eq_false_iff] at h1
    refine awp_skip ?_
    refine awp_seq ?_
    have hrs := Cv.run_sm (s := (Cv.new Cv.obj).1) (l := l) (n := 0) Sm.sm
    have hmul : l.length * (0 + l.length) ≤ 40 * 40 := Nat.mul_le_mul (by omega) (by omega)
    have hqr := hrs.1.q
    have hwl : (Cv.waiting (Cv.run (Cv.new Cv.obj).1 l).1).length = (Cv.run (Cv.new Cv.obj).1 l).1.queue.length := by simp [Cv.waiting]
    refine awp_region ?_
    refine st_p (fun _ => by exact y_loadW (.plain rfl) (by first | exact .here | exact k1 | exact k2 | exact k3 | exact k4 | exact k5 | exact k6 | exact k7 | exact k8 | exact k9 | exact k10 | exact k11 | exact k12 | exact k13) (by rfl)) rfl ?_
    refine st_p (fun _ => by exact y_move (.plain rfl)) rfl ?_
    refine aops_call (blt_lt rfl) (.plain rfl) (.cons (.imp (.plain rfl) (AV.Imp.agg (RowOf.imp (enc := encS)))) (.cons (.imp (.plain rfl) (Sl.imp (enc := encC))) .nil)) (ACalls.here (run_c _ _ (by first | assumption | exact Sm.to (by omega) | exact Sm.q (by omega) | exact Cv.apply_wl (by omega) | exact Cv.withdraw_wl | omega | exact smN.le (by assumption) (by omega) | (simp only [Cv.waiting, List.length_map]; first | exact Sm.q (by omega) | exact Cv.apply_wl (by omega) | omega) | (simp at hc; omega) | (simp [Cv.waiting]; omega)) (by first | assumption | exact Sm.to (by omega) | exact Sm.q (by omega) | exact Cv.apply_wl (by omega) | exact Cv.withdraw_wl | omega | exact smN.le (by assumption) (by omega) | (simp only [Cv.waiting, List.length_map]; first | exact Sm.q (by omega) | exact Cv.apply_wl (by omega) | omega) | (simp at hc; omega) | (simp [Cv.waiting]; omega))) ?_)
    refine st_p (fun _ => by exact y_move (.plain rfl)) rfl ?_
    refine st_p (fun _ => by exact y_extract (.plain rfl) rfl) rfl ?_
    refine st_p (fun _ => by exact y_extract (.plain rfl) rfl) rfl ?_
    refine st_p (fun _ => by exact y_extract (.plain rfl) rfl) rfl ?_
    refine st_s (fun _ => by exact y_storeW (by rfl) rfl (.plain rfl) (.plain rfl) (by first | exact .here | exact u1 | exact u2 | exact u3 | exact u4 | exact u5 | exact u6 | exact u7 | exact u8 | exact u9 | exact u10 | exact u11 | exact u12 | exact u13) (by rfl)) ?_
    refine st_p (fun _ => by exact y_assign (.plain rfl)) rfl ?_
    refine st_p (fun _ => by exact y_assign (.plain rfl)) rfl ?_
    refine aops_nil ?_
    refine awp_seq ?_
    refine awp_region ?_
    refine st_p (fun _ => by exact y_move (.plain rfl)) rfl ?_
    refine st_p (fun _ => by exact y_move (.plain rfl)) rfl ?_
    refine st_p (fun _ => by exact y_loadW (.plain rfl) (by first | exact .here | exact k1 | exact k2 | exact k3 | exact k4 | exact k5 | exact k6 | exact k7 | exact k8 | exact k9 | exact k10 | exact k11 | exact k12 | exact k13) (by rfl)) rfl ?_
    refine aops_call (blt_lt rfl) (.plain rfl) (.cons (.imp (.plain rfl) (AV.Imp.agg (RowOf.imp (enc := encS)))) .nil) (ACalls.here (waiting_c _ (by first | assumption | exact Sm.to (by omega) | exact Sm.q (by omega) | exact Cv.apply_wl (by omega) | exact Cv.withdraw_wl | omega | exact smN.le (by assumption) (by omega) | (simp only [Cv.waiting, List.length_map]; first | exact Sm.q (by omega) | exact Cv.apply_wl (by omega) | omega) | (simp at hc; omega) | (simp [Cv.waiting]; omega))) ?_)
    refine st_p (fun _ => by exact y_buildSlice (.cons (.plain rfl) inferInstance (by rfl) (.cons (.plain rfl) inferInstance (by rfl) .nil)) rfl (le_ rfl)) rfl ?_
    refine aops_call (blt_lt rfl) (.plain rfl) (.cons (.imp (.plain rfl) (Sl.imp (enc := encLI))) .nil) (ACalls.here (concatI_c _ (by simp) (by simp; omega)) ?_)
    refine aops_call (blt_lt rfl) (.plain rfl) (.cons (.imp (.plain rfl) (Sl.imp (enc := encI))) (.cons (.imp (.plain rfl) (Sl.imp (enc := encI))) .nil)) (ACalls.here (equalI_c _ _ (by first | assumption | exact Sm.to (by omega) | exact Sm.q (by omega) | exact Cv.apply_wl (by omega) | exact Cv.withdraw_wl | omega | exact smN.le (by assumption) (by omega) | (simp only [Cv.waiting, List.length_map]; first | exact Sm.q (by omega) | exact Cv.apply_wl (by omega) | omega) | (simp at hc; omega) | (simp [Cv.waiting]; omega))) ?_)
    refine st_p (fun _ => by exact y_move (.plain rfl)) rfl ?_
    refine st_g rfl rfl rfl SaysI.out (fun hc _ => by exact y_call (.plain rfl) .nil (ACalls.pure (awake_c))) rfl ?_
    refine st_p (fun _ => by exact y_and (.plain rfl) rfl rfl) rfl ?_
    refine st_p (fun _ => by exact y_assign (.plain rfl)) rfl ?_
    refine aops_nil ?_
    refine awp_ret ?_
    refine retG (.inr rfl) (.cons (.tmp rfl) .nil) (VShift.of1 (AV.Imp.refl _) (.nil _)) ⟨congrArg (fun x : (Bool) => (AV.bool x)) (show _ = (true) from ?_), rfl⟩
    have e := Cv.order_law l
    simp only [Cv.obj_new] at *
    simp [e]

set_option maxRecDepth 100000 in
theorem condvarOrder_lifted (os : Os) (started : os.Started) (H : Type) (enc : TypeId × Value → H) :
    ReturnsInHanded {} Try.checked os 10 .any (Ytpbjbnaijbokoaa.Rows.condvarOrderSpec.pre6 enc Try.prog Try.f10 Ytpbjbnaijbokoaa.Rows.condvarOrderRow.domain false) (Ytpbjbnaijbokoaa.Rows.condvarOrderSpec.post enc Try.prog Try.f10 false true false false) := by
  refine returnsInHanded_of_change (C := Try.checked) (s := Ytpbjbnaijbokoaa.Rows.condvarOrderSpec) ownK started (by kernel_rfl) Try.func10
    (ChangeSpec.witness6 (C := Try.checked) (s := Ytpbjbnaijbokoaa.Rows.condvarOrderSpec) false ⟨#[], #[.slice none 0 0], []⟩ 8 (by kernel_rfl) (by kernel_rfl) (by kernel_rfl) (by kernel_rfl) (by kernel_rfl)) ?_
  intro W base args ds gs before hval hW _ _
  refine law_row (TB := 4) (by rw [Try.params10]) ((.scalar rdP (by kernel_rfl) .nil)) (fun a h => orderLaw_c a.1) laidK (by kernel_rfl) rfl Try.underlying4 rfl (fun ds' h => ?_) hval hW
  rw [Try.params10] at h
  match ds', h with
  | [d0], _ => rfl
namespace Ytpbjbnaijbokoaa
theorem condvarOrder_holds : Rows.CondvarOrderSaid :=
  OpenClaim.holds_of_wide 10 Try.f10 rfl rfl rfl rfl rfl rfl rfl ⟨rfl, rfl, rfl, rfl, rfl⟩ rfl rfl rfl rfl rfl (by kernel_rfl) Try.func10 (by kernel_rfl)
    (of_decide_eq_true (by kernel_rfl)) (by unfold Func.isWrapper; first | (rw [if_pos (by decide +kernel)]; kernel_rfl) | (rw [if_neg (by decide +kernel)]; exact ⟨rfl, rfl⟩))
    (fun os started H enc _ => condvarOrder_lifted os started H enc)
end Ytpbjbnaijbokoaa

end Go.Proofs
