/- WaitlistLists answers true for every input, and its arguments read as they did: the given statement WaitlistListsSaid. No condition. -/
import Derived.Test.YtapmdkfhppbblaaD07
import Derived.Test.YtapmdkfhppbblaaRows
set_option linter.unusedVariables false
set_option linter.unusedSimpArgs false
namespace Go.Proofs
open Go.Aw Wl
theorem listsLaw_c (l : List W) (t u : Int) (any : Bool) (hu : -9223372036854775808 ≤ u ∧ u ≤ 9223372036854775807) : ACalls Try.prog 4 [slW l, .int t, .int u, .bool any] [] (fun v st => v = .bool true ∧ st = []) := by
  refine acalls_body Try.func4 (by kernel_rfl) rfl Try.ntmps4 (Nat.le_of_ble_eq_true rfl) ?_
  rw [Try.results4]
  refine awp_seq ?_
  refine awp_region ?_
  refine st_p (fun _ => by exact y_assign (.plain rfl)) rfl ?_
  refine aops_nil ?_
  refine awp_seq ?_
  refine awp_seq ?_
  refine awp_region ?_
  refine st_p (fun _ => by exact y_move (.plain rfl)) rfl ?_
  refine aops_call (blt_lt rfl) (.plain rfl) (.cons (.plain rfl) .nil) (ACalls.here (great_c _) ?_)
  refine aops_nil ?_
  refine awp_cond rfl (fun h1 => ?_) (fun h1 => ?_)
  · skip
    try simp only [decide_eq_true_eq, decide_eq_false_iff_not, Bool.not_eq_true', Bool.not_eq_false', Bool.not_eq_true, Bool.not_eq_false, List.length_map, Int.ofNat_lt, Int.ofNat_le, Bool.or_eq_true, Bool.and_eq_true, Bool.or_eq_false_iff, Bool.and_eq_false_iff] at h1
    refine awp_seq ?_
    refine awp_region ?_
    refine aops_call (blt_lt rfl) (.plain rfl) .nil (ACalls.here awake_c ?_)
    refine st_p (fun _ => by exact y_assign (.plain rfl)) rfl ?_
    refine aops_nil ?_
    refine awp_ret ?_
    refine ret1 (.inr rfl) rfl ?_
    exact ⟨rfl, rfl⟩
  · skip
    try simp only [decide_eq_true_eq, decide_eq_false_iff_not, Bool.not_eq_true', Bool.not_eq_false', Bool.not_eq_true, Bool.not_eq_false, List.length_map, Int.ofNat_lt, Int.ofNat_le, Bool.or_eq_true, Bool.and_eq_true, Bool.or_eq_false_iff, Bool.and_eq_false_iff] at h1
    refine awp_skip ?_
    refine awp_seq ?_
    refine awp_region ?_
    refine st_p (fun _ => by exact y_move (.plain rfl)) rfl ?_
    refine st_p (fun _ => by exact y_move (.plain rfl)) rfl ?_
    refine aops_call (blt_lt rfl) (.plain rfl) (.cons (.plain rfl) (.cons (.plain rfl) .nil)) (ACalls.here (find_c l t (by omega)) ?_)
    refine st_p (fun _ => by exact y_move (.plain rfl)) rfl ?_
    refine st_p (fun _ => by exact y_extract (.plain rfl) rfl) rfl ?_
    refine st_p (fun _ => by exact y_extract (.plain rfl) rfl) rfl ?_
    refine st_p (fun _ => by exact y_assign (.plain rfl)) rfl ?_
    refine st_p (fun _ => by exact y_assign (.plain rfl)) rfl ?_
    refine aops_nil ?_
    refine awp_seq ?_
    refine awp_region ?_
    refine st_p (fun _ => by exact y_move (.plain rfl)) rfl ?_
    refine st_p (fun _ => by exact y_move (.plain rfl)) rfl ?_
    refine aops_call (blt_lt rfl) (.plain rfl) (.cons (.plain rfl) (.cons (.plain rfl) .nil)) (ACalls.here (findR_c l t (by omega)) ?_)
    refine st_p (fun _ => by exact y_move (.plain rfl)) rfl ?_
    refine st_p (fun _ => by exact y_extract (.plain rfl) rfl) rfl ?_
    refine st_p (fun _ => by exact y_extract (.plain rfl) rfl) rfl ?_
    refine st_p (fun _ => by exact y_assign (.plain rfl)) rfl ?_
    refine st_p (fun _ => by exact y_assign (.plain rfl)) rfl ?_
    refine aops_nil ?_
    refine awp_seq ?_
    refine awp_region ?_
    refine st_p (fun _ => by exact y_move (.plain rfl)) rfl ?_
    refine st_p (fun _ => by exact y_move (.plain rfl)) rfl ?_
    refine st_p (fun _ => by exact y_move (.plain rfl)) rfl ?_
    refine aops_call (blt_lt rfl) (.plain rfl) (.cons (.plain rfl) (.cons (.plain rfl) (.cons (.plain rfl) .nil))) (ACalls.here (grant_c l (by omega) u any hu) ?_)
    refine st_p (fun _ => by exact y_move (.plain rfl)) rfl ?_
    refine st_p (fun _ => by exact y_extract (.plain rfl) rfl) rfl ?_
    refine st_p (fun _ => by exact y_extract (.plain rfl) rfl) rfl ?_
    refine st_p (fun _ => by exact y_extract (.plain rfl) rfl) rfl ?_
    refine st_p (fun _ => by exact y_assign (.plain rfl)) rfl ?_
    refine st_p (fun _ => by exact y_assign (.plain rfl)) rfl ?_
    refine st_p (fun _ => by exact y_assign (.plain rfl)) rfl ?_
    refine aops_nil ?_
    refine awp_seq ?_
    refine awp_region ?_
    refine st_p (fun _ => by exact y_move (.plain rfl)) rfl ?_
    refine st_p (fun _ => by exact y_move (.plain rfl)) rfl ?_
    refine st_p (fun _ => by exact y_move (.plain rfl)) rfl ?_
    refine aops_call (blt_lt rfl) (.plain rfl) (.cons (.plain rfl) (.cons (.plain rfl) (.cons (.plain rfl) .nil))) (ACalls.here (grantR_c l (by omega) u any hu) ?_)
    refine st_p (fun _ => by exact y_move (.plain rfl)) rfl ?_
    refine st_p (fun _ => by exact y_extract (.plain rfl) rfl) rfl ?_
    refine st_p (fun _ => by exact y_extract (.plain rfl) rfl) rfl ?_
    refine st_p (fun _ => by exact y_extract (.plain rfl) rfl) rfl ?_
    refine st_p (fun _ => by exact y_assign (.plain rfl)) rfl ?_
    refine st_p (fun _ => by exact y_assign (.plain rfl)) rfl ?_
    refine st_p (fun _ => by exact y_assign (.plain rfl)) rfl ?_
    refine aops_nil ?_
    refine awp_seq ?_
    have hr : (remove l t).length ≤ 1000000 := by have := remove_len l t; omega
    have hg1 : (grant any l u).g.length ≤ 1000000 := by have := grant_len any l u; omega
    have hg2 : (grant any l u).o.length ≤ 1000000 := by have := grant_len any l u; omega
    have ht : (tasks l).length ≤ 1000000 := by have := tasks_len l; omega
    refine awp_region ?_
    refine st_p (fun _ => by exact y_move (.plain rfl)) rfl ?_
    refine st_p (fun _ => by exact y_move (.plain rfl)) rfl ?_
    first | refine st_p (fun _ => by exact y_eql (.plain rfl) (.plain rfl)) rfl ?_ | refine st_p (fun _ => by exact y_eqBool (by rfl) (.plain rfl) (.plain rfl)) rfl ?_ | refine st_p (fun _ => by exact y_eqStruct (.plain rfl) (.plain rfl) .nil) rfl ?_
    refine st_p (fun _ => by exact y_move (.plain rfl)) rfl ?_
    refine st_g rfl rfl rfl (by first | exact Says.bool _ _ | exact Says.opt _ _ _) (fun hc _ => by exact y_move (.plain rfl)) rfl ?_
    refine st_g rfl rfl rfl (by first | exact Says.bool _ _ | exact Says.opt _ _ _) (fun hc _ => by exact y_move (.plain rfl)) rfl ?_
    first | refine st_g rfl rfl rfl (by first | exact Says.bool _ _ | exact Says.opt _ _ _) (fun hc _ => by exact y_eql (.opt rfl hc) (.opt rfl hc)) rfl ?_ | refine st_g rfl rfl rfl (by first | exact Says.bool _ _ | exact Says.opt _ _ _) (fun hc _ => by exact y_eqBool (by rfl) (.opt rfl hc) (.opt rfl hc)) rfl ?_ | refine st_g rfl rfl rfl (by first | exact Says.bool _ _ | exact Says.opt _ _ _) (fun hc _ => by exact y_eqStruct (.opt rfl hc) (.opt rfl hc) .nil) rfl ?_
    refine st_p (fun _ => by exact y_and (.plain rfl) rfl rfl) rfl ?_
    refine st_p (fun _ => by exact y_move (.plain rfl)) rfl ?_
    refine st_g rfl rfl rfl (by first | exact Says.bool _ _ | exact Says.opt _ _ _) (fun hc _ => by exact y_move (.plain rfl)) rfl ?_
    refine st_g rfl rfl rfl (by first | exact Says.bool _ _ | exact Says.opt _ _ _) (fun hc _ => by exact y_move (.plain rfl)) rfl ?_
    refine st_g rfl rfl rfl (by first | exact Says.bool _ _ | exact Says.opt _ _ _) (fun hc _ => by exact y_call (.plain rfl) (.cons (.opt rfl hc) (.cons (.opt rfl hc) .nil)) (ACalls.pure (remove_c l t (by omega)))) rfl ?_
    refine st_g rfl rfl rfl (by first | exact Says.bool _ _ | exact Says.opt _ _ _) (fun hc _ => by exact y_move (.plain rfl)) rfl ?_
    refine st_g rfl rfl rfl (by first | exact Says.bool _ _ | exact Says.opt _ _ _) (fun hc _ => by exact y_move (.plain rfl)) rfl ?_
    refine st_g rfl rfl rfl (by first | exact Says.bool _ _ | exact Says.opt _ _ _) (fun hc _ => by exact y_call (.plain rfl) (.cons (.opt rfl hc) (.cons (.opt rfl hc) .nil)) (ACalls.pure (removeR_c l t (by omega)))) rfl ?_
    refine st_g rfl rfl rfl (by first | exact Says.bool _ _ | exact Says.opt _ _ _) (fun hc _ => by exact y_call (.plain rfl) (.cons (.opt rfl hc) (.cons (.opt rfl hc) .nil)) (ACalls.pure (equal_c _ _ hr))) rfl ?_
    refine st_p (fun _ => by exact y_and (.plain rfl) rfl rfl) rfl ?_
    refine st_p (fun _ => by exact y_move (.plain rfl)) rfl ?_
    refine st_g rfl rfl rfl (by first | exact Says.bool _ _ | exact Says.opt _ _ _) (fun hc _ => by exact y_move (.plain rfl)) rfl ?_
    refine st_g rfl rfl rfl (by first | exact Says.bool _ _ | exact Says.opt _ _ _) (fun hc _ => by exact y_move (.plain rfl)) rfl ?_
    refine st_g rfl rfl rfl (by first | exact Says.bool _ _ | exact Says.opt _ _ _) (fun hc _ => by exact y_call (.plain rfl) (.cons (.opt rfl hc) (.cons (.opt rfl hc) .nil)) (ACalls.pure (equal_c _ _ hg1))) rfl ?_
    refine st_p (fun _ => by exact y_and (.plain rfl) rfl rfl) rfl ?_
    refine st_p (fun _ => by exact y_move (.plain rfl)) rfl ?_
    refine st_g rfl rfl rfl (by first | exact Says.bool _ _ | exact Says.opt _ _ _) (fun hc _ => by exact y_move (.plain rfl)) rfl ?_
    refine st_g rfl rfl rfl (by first | exact Says.bool _ _ | exact Says.opt _ _ _) (fun hc _ => by exact y_move (.plain rfl)) rfl ?_
    refine st_g rfl rfl rfl (by first | exact Says.bool _ _ | exact Says.opt _ _ _) (fun hc _ => by exact y_call (.plain rfl) (.cons (.opt rfl hc) (.cons (.opt rfl hc) .nil)) (ACalls.pure (equal_c _ _ hg2))) rfl ?_
    refine st_p (fun _ => by exact y_and (.plain rfl) rfl rfl) rfl ?_
    refine st_p (fun _ => by exact y_move (.plain rfl)) rfl ?_
    refine st_g rfl rfl rfl (by first | exact Says.bool _ _ | exact Says.opt _ _ _) (fun hc _ => by exact y_move (.plain rfl)) rfl ?_
    refine st_g rfl rfl rfl (by first | exact Says.bool _ _ | exact Says.opt _ _ _) (fun hc _ => by exact y_move (.plain rfl)) rfl ?_
    first | refine st_g rfl rfl rfl (by first | exact Says.bool _ _ | exact Says.opt _ _ _) (fun hc _ => by exact y_eql (.opt rfl hc) (.opt rfl hc)) rfl ?_ | refine st_g rfl rfl rfl (by first | exact Says.bool _ _ | exact Says.opt _ _ _) (fun hc _ => by exact y_eqBool (by rfl) (.opt rfl hc) (.opt rfl hc)) rfl ?_ | refine st_g rfl rfl rfl (by first | exact Says.bool _ _ | exact Says.opt _ _ _) (fun hc _ => by exact y_eqStruct (.opt rfl hc) (.opt rfl hc) .nil) rfl ?_
    refine st_p (fun _ => by exact y_and (.plain rfl) rfl rfl) rfl ?_
    refine st_p (fun _ => by exact y_move (.plain rfl)) rfl ?_
    refine st_g rfl rfl rfl (by first | exact Says.bool _ _ | exact Says.opt _ _ _) (fun hc _ => by exact y_move (.plain rfl)) rfl ?_
    refine st_g rfl rfl rfl (by first | exact Says.bool _ _ | exact Says.opt _ _ _) (fun hc _ => by exact y_call (.plain rfl) (.cons (.opt rfl hc) .nil) (ACalls.pure (tasks_c l (by omega)))) rfl ?_
    refine st_g rfl rfl rfl (by first | exact Says.bool _ _ | exact Says.opt _ _ _) (fun hc _ => by exact y_move (.plain rfl)) rfl ?_
    refine st_g rfl rfl rfl (by first | exact Says.bool _ _ | exact Says.opt _ _ _) (fun hc _ => by exact y_call (.plain rfl) (.cons (.opt rfl hc) .nil) (ACalls.pure (tasksR_c l (by omega)))) rfl ?_
    refine st_g rfl rfl rfl (by first | exact Says.bool _ _ | exact Says.opt _ _ _) (fun hc _ => by exact y_call (.plain rfl) (.cons (.opt rfl hc) (.cons (.opt rfl hc) .nil)) (ACalls.pure (equalI_c _ _ ht))) rfl ?_
    refine st_p (fun _ => by exact y_and (.plain rfl) rfl rfl) rfl ?_
    refine st_p (fun _ => by exact y_move (.plain rfl)) rfl ?_
    refine st_g rfl rfl rfl (by first | exact Says.bool _ _ | exact Says.opt _ _ _) (fun hc _ => by exact y_call (.plain rfl) .nil (ACalls.pure awake_c)) rfl ?_
    refine st_p (fun _ => by exact y_and (.plain rfl) rfl rfl) rfl ?_
    refine st_p (fun _ => by exact y_assign (.plain rfl)) rfl ?_
    refine aops_nil ?_
    refine awp_ret ?_
    refine ret1 (.inr rfl) rfl ?_
    exact ⟨congrArg AV.bool (by simp), rfl⟩

set_option maxRecDepth 100000 in
theorem waitlistLists_lifted (os : Os) (started : os.Started) (H : Type) (enc : TypeId × Value → H) :
    ReturnsInHanded {} Try.checked os 4 .any (Ytapmdkfhppbblaa.Rows.waitlistListsSpec.pre6 enc Try.prog Try.f4 Ytapmdkfhppbblaa.Rows.waitlistListsRow.domain false) (Ytapmdkfhppbblaa.Rows.waitlistListsSpec.post enc Try.prog Try.f4 false true false false) := by
  refine returnsInHanded_of_change (C := Try.checked) (s := Ytapmdkfhppbblaa.Rows.waitlistListsSpec) ownK started (by kernel_rfl) Try.func4
    (ChangeSpec.witness6 (C := Try.checked) (s := Ytapmdkfhppbblaa.Rows.waitlistListsSpec) false ⟨#[], #[.slice none 0 0, .int .i64 0, .int .i64 0, .bool false], []⟩ 8 (by kernel_rfl) (by kernel_rfl) (by kernel_rfl) (by kernel_rfl) (by kernel_rfl)) ?_
  intro W base args ds gs before hval hW _ _
  refine law_row (TB := 4) (by rw [Try.params4]) ((.scalar rdL (by kernel_rfl) (.scalar rdI (by kernel_rfl) (.scalar rdI (by kernel_rfl) (.scalar rdB (by kernel_rfl) .nil))))) (fun a h => listsLaw_c a.1 a.2.1 a.2.2.1 a.2.2.2.1 h.2.2.1) laidK (by kernel_rfl) rfl Try.underlying4 rfl (fun ds' h => ?_) hval hW
  rw [Try.params4] at h
  match ds', h with
  | [d0, d1, d2, d3], _ => rfl
namespace Ytapmdkfhppbblaa
theorem waitlistLists_holds : Rows.WaitlistListsSaid :=
  OpenClaim.holds_of_wide 4 Try.f4 rfl rfl rfl rfl rfl rfl rfl ⟨rfl, rfl, rfl, rfl, rfl⟩ rfl rfl rfl rfl rfl (by kernel_rfl) Try.func4 (by kernel_rfl)
    (of_decide_eq_true (by kernel_rfl)) (by unfold Func.isWrapper; first | (rw [if_pos (by decide +kernel)]; kernel_rfl) | (rw [if_neg (by decide +kernel)]; exact ⟨rfl, rfl⟩))
    (fun os started H enc _ => waitlistLists_lifted os started H enc)
end Ytapmdkfhppbblaa

end Go.Proofs
