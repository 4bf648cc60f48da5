/- The contracts of the waitlist functions: what each call returns, for every argument that the contract names. -/
import Derived.Test.YtapmdkfhppbblaaTy07
import Derived.Test.YtapmdkfhppbblaaM07
set_option linter.unusedVariables false
set_option linter.unusedSimpArgs false
namespace Go.Proofs
open Go.Aw Wl
def encW (w : W) : List AV := [.int w.task, .int w.op, .int w.value, .int w.prio, .int w.case_]
abbrev avW (w : W) : AV := .agg (encW w)
abbrev slI (l : List Int) : AV := .sl 1 (l.map fun n => [.int n])
abbrev slW (l : List W) : AV := .sl 5 (l.map encW)

theorem valid_c (w : W) : ACalls Try.prog 42 [avW w] [] (fun v st => v = .bool (valid w) ∧ st = []) := by
  refine acalls_body Try.func42 (by kernel_rfl) rfl Try.ntmps42 (Nat.le_of_ble_eq_true rfl) ?_
  rw [Try.results42]
  refine awp_seq ?_
  refine awp_region ?_
  refine st_n (fun _ => by exact y_box (.plain rfl)) rfl fun n1 => ?_
  refine st_p (fun _ => by exact y_assign (.plain rfl)) rfl ?_
  refine aops_nil ?_
  refine awp_seq ?_
  refine awp_block ?_
  refine awp_seq ?_
  refine awp_region ?_
  first | refine st_p (fun _ => by exact y_fieldPtr (.plain rfl)) rfl ?_ | refine st_p (fun _ => by exact y_fieldE (.plain rfl) (Nat.le_of_ble_eq_true rfl)) rfl ?_
  first | refine st_p (fun _ => by exact y_loadE (.plain rfl) rfl) rfl ?_ | refine st_p (fun _ => by exact y_loadEW (.plain rfl) (by rfl)) rfl ?_ | refine st_p (fun _ => by exact y_loadEAgg (.plain rfl) (Nat.le_of_ble_eq_true rfl)) rfl ?_ | refine st_p (fun _ => by exact y_load (.plain rfl) (by first | exact .here | exact .there .here | exact .there (.there .here) | exact .there (.there (.there .here)) | exact .there (.there (.there (.there .here))) | exact .there (.there (.there (.there (.there .here)))) | exact .there (.there (.there (.there (.there (.there .here)))))) rfl) rfl ?_ | refine st_p (fun _ => by exact y_loadW (.plain rfl) (by first | exact .here | exact .there .here | exact .there (.there .here) | exact .there (.there (.there .here)) | exact .there (.there (.there (.there .here))) | exact .there (.there (.there (.there (.there .here)))) | exact .there (.there (.there (.there (.there (.there .here)))))) (by rfl)) rfl ?_ | refine st_p (fun _ => by exact y_loadAgg (.plain rfl) (by first | exact .here | exact .there .here | exact .there (.there .here) | exact .there (.there (.there .here)) | exact .there (.there (.there (.there .here))) | exact .there (.there (.there (.there (.there .here)))) | exact .there (.there (.there (.there (.there (.there .here)))))) (Nat.le_of_ble_eq_true rfl)) rfl ?_
  refine st_p (fun _ => by exact y_lss (.plain rfl) (.plain rfl)) rfl ?_
  refine st_p (fun _ => by exact y_move (.plain rfl)) rfl ?_
  first | refine st_g rfl rfl rfl (by first | exact Says.bool _ _ | exact Says.opt _ _ _) (fun hc _ => by exact y_fieldPtr (.plain rfl)) rfl ?_ | refine st_g rfl rfl rfl (by first | exact Says.bool _ _ | exact Says.opt _ _ _) (fun hc _ => by exact y_fieldE (.plain rfl) (Nat.le_of_ble_eq_true rfl)) rfl ?_
  first | refine st_g rfl rfl rfl (by first | exact Says.bool _ _ | exact Says.opt _ _ _) (fun hc _ => by exact y_loadE (.opt rfl hc) rfl) rfl ?_ | refine st_g rfl rfl rfl (by first | exact Says.bool _ _ | exact Says.opt _ _ _) (fun hc _ => by exact y_loadEW (.opt rfl hc) (by rfl)) rfl ?_ | refine st_g rfl rfl rfl (by first | exact Says.bool _ _ | exact Says.opt _ _ _) (fun hc _ => by exact y_loadEAgg (.opt rfl hc) (Nat.le_of_ble_eq_true rfl)) rfl ?_ | refine st_g rfl rfl rfl (by first | exact Says.bool _ _ | exact Says.opt _ _ _) (fun hc _ => by exact y_load (.opt rfl hc) (by first | exact .here | exact .there .here | exact .there (.there .here) | exact .there (.there (.there .here)) | exact .there (.there (.there (.there .here))) | exact .there (.there (.there (.there (.there .here)))) | exact .there (.there (.there (.there (.there (.there .here)))))) rfl) rfl ?_ | refine st_g rfl rfl rfl (by first | exact Says.bool _ _ | exact Says.opt _ _ _) (fun hc _ => by exact y_loadW (.opt rfl hc) (by first | exact .here | exact .there .here | exact .there (.there .here) | exact .there (.there (.there .here)) | exact .there (.there (.there (.there .here))) | exact .there (.there (.there (.there (.there .here)))) | exact .there (.there (.there (.there (.there (.there .here)))))) (by rfl)) rfl ?_ | refine st_g rfl rfl rfl (by first | exact Says.bool _ _ | exact Says.opt _ _ _) (fun hc _ => by exact y_loadAgg (.opt rfl hc) (by first | exact .here | exact .there .here | exact .there (.there .here) | exact .there (.there (.there .here)) | exact .there (.there (.there (.there .here))) | exact .there (.there (.there (.there (.there .here)))) | exact .there (.there (.there (.there (.there (.there .here)))))) (Nat.le_of_ble_eq_true rfl)) rfl ?_
  refine st_g rfl rfl rfl (by first | exact Says.bool _ _ | exact Says.opt _ _ _) (fun hc _ => by exact y_geq (.opt rfl hc) (.plain rfl)) rfl ?_
  refine st_p (fun _ => by exact y_or (.plain rfl) rfl rfl) rfl ?_
  refine st_p (fun _ => by exact y_move (.plain rfl)) rfl ?_
  first | refine st_g rfl rfl rfl (by first | exact Says.bool _ _ | exact Says.opt _ _ _) (fun hc _ => by exact y_fieldPtr (.plain rfl)) rfl ?_ | refine st_g rfl rfl rfl (by first | exact Says.bool _ _ | exact Says.opt _ _ _) (fun hc _ => by exact y_fieldE (.plain rfl) (Nat.le_of_ble_eq_true rfl)) rfl ?_
  first | refine st_g rfl rfl rfl (by first | exact Says.bool _ _ | exact Says.opt _ _ _) (fun hc _ => by exact y_loadE (.opt rfl hc) rfl) rfl ?_ | refine st_g rfl rfl rfl (by first | exact Says.bool _ _ | exact Says.opt _ _ _) (fun hc _ => by exact y_loadEW (.opt rfl hc) (by rfl)) rfl ?_ | refine st_g rfl rfl rfl (by first | exact Says.bool _ _ | exact Says.opt _ _ _) (fun hc _ => by exact y_loadEAgg (.opt rfl hc) (Nat.le_of_ble_eq_true rfl)) rfl ?_ | refine st_g rfl rfl rfl (by first | exact Says.bool _ _ | exact Says.opt _ _ _) (fun hc _ => by exact y_load (.opt rfl hc) (by first | exact .here | exact .there .here | exact .there (.there .here) | exact .there (.there (.there .here)) | exact .there (.there (.there (.there .here))) | exact .there (.there (.there (.there (.there .here)))) | exact .there (.there (.there (.there (.there (.there .here)))))) rfl) rfl ?_ | refine st_g rfl rfl rfl (by first | exact Says.bool _ _ | exact Says.opt _ _ _) (fun hc _ => by exact y_loadW (.opt rfl hc) (by first | exact .here | exact .there .here | exact .there (.there .here) | exact .there (.there (.there .here)) | exact .there (.there (.there (.there .here))) | exact .there (.there (.there (.there (.there .here)))) | exact .there (.there (.there (.there (.there (.there .here)))))) (by rfl)) rfl ?_ | refine st_g rfl rfl rfl (by first | exact Says.bool _ _ | exact Says.opt _ _ _) (fun hc _ => by exact y_loadAgg (.opt rfl hc) (by first | exact .here | exact .there .here | exact .there (.there .here) | exact .there (.there (.there .here)) | exact .there (.there (.there (.there .here))) | exact .there (.there (.there (.there (.there .here)))) | exact .there (.there (.there (.there (.there (.there .here)))))) (Nat.le_of_ble_eq_true rfl)) rfl ?_
  refine st_g rfl rfl rfl (by first | exact Says.bool _ _ | exact Says.opt _ _ _) (fun hc _ => by exact y_lss (.opt rfl hc) (.plain rfl)) rfl ?_
  refine st_p (fun _ => by exact y_or (.plain rfl) rfl rfl) rfl ?_
  refine st_p (fun _ => by exact y_move (.plain rfl)) rfl ?_
  first | refine st_g rfl rfl rfl (by first | exact Says.bool _ _ | exact Says.opt _ _ _) (fun hc _ => by exact y_fieldPtr (.plain rfl)) rfl ?_ | refine st_g rfl rfl rfl (by first | exact Says.bool _ _ | exact Says.opt _ _ _) (fun hc _ => by exact y_fieldE (.plain rfl) (Nat.le_of_ble_eq_true rfl)) rfl ?_
  first | refine st_g rfl rfl rfl (by first | exact Says.bool _ _ | exact Says.opt _ _ _) (fun hc _ => by exact y_loadE (.opt rfl hc) rfl) rfl ?_ | refine st_g rfl rfl rfl (by first | exact Says.bool _ _ | exact Says.opt _ _ _) (fun hc _ => by exact y_loadEW (.opt rfl hc) (by rfl)) rfl ?_ | refine st_g rfl rfl rfl (by first | exact Says.bool _ _ | exact Says.opt _ _ _) (fun hc _ => by exact y_loadEAgg (.opt rfl hc) (Nat.le_of_ble_eq_true rfl)) rfl ?_ | refine st_g rfl rfl rfl (by first | exact Says.bool _ _ | exact Says.opt _ _ _) (fun hc _ => by exact y_load (.opt rfl hc) (by first | exact .here | exact .there .here | exact .there (.there .here) | exact .there (.there (.there .here)) | exact .there (.there (.there (.there .here))) | exact .there (.there (.there (.there (.there .here)))) | exact .there (.there (.there (.there (.there (.there .here)))))) rfl) rfl ?_ | refine st_g rfl rfl rfl (by first | exact Says.bool _ _ | exact Says.opt _ _ _) (fun hc _ => by exact y_loadW (.opt rfl hc) (by first | exact .here | exact .there .here | exact .there (.there .here) | exact .there (.there (.there .here)) | exact .there (.there (.there (.there .here))) | exact .there (.there (.there (.there (.there .here)))) | exact .there (.there (.there (.there (.there (.there .here)))))) (by rfl)) rfl ?_ | refine st_g rfl rfl rfl (by first | exact Says.bool _ _ | exact Says.opt _ _ _) (fun hc _ => by exact y_loadAgg (.opt rfl hc) (by first | exact .here | exact .there .here | exact .there (.there .here) | exact .there (.there (.there .here)) | exact .there (.there (.there (.there .here))) | exact .there (.there (.there (.there (.there .here)))) | exact .there (.there (.there (.there (.there (.there .here)))))) (Nat.le_of_ble_eq_true rfl)) rfl ?_
  refine st_g rfl rfl rfl (by first | exact Says.bool _ _ | exact Says.opt _ _ _) (fun hc _ => by exact y_gtr (.opt rfl hc) (.plain rfl)) rfl ?_
  refine st_p (fun _ => by exact y_or (.plain rfl) rfl rfl) rfl ?_
  refine st_p (fun _ => by exact y_move (.plain rfl)) rfl ?_
  first | refine st_g rfl rfl rfl (by first | exact Says.bool _ _ | exact Says.opt _ _ _) (fun hc _ => by exact y_fieldPtr (.plain rfl)) rfl ?_ | refine st_g rfl rfl rfl (by first | exact Says.bool _ _ | exact Says.opt _ _ _) (fun hc _ => by exact y_fieldE (.plain rfl) (Nat.le_of_ble_eq_true rfl)) rfl ?_
  first | refine st_g rfl rfl rfl (by first | exact Says.bool _ _ | exact Says.opt _ _ _) (fun hc _ => by exact y_loadE (.opt rfl hc) rfl) rfl ?_ | refine st_g rfl rfl rfl (by first | exact Says.bool _ _ | exact Says.opt _ _ _) (fun hc _ => by exact y_loadEW (.opt rfl hc) (by rfl)) rfl ?_ | refine st_g rfl rfl rfl (by first | exact Says.bool _ _ | exact Says.opt _ _ _) (fun hc _ => by exact y_loadEAgg (.opt rfl hc) (Nat.le_of_ble_eq_true rfl)) rfl ?_ | refine st_g rfl rfl rfl (by first | exact Says.bool _ _ | exact Says.opt _ _ _) (fun hc _ => by exact y_load (.opt rfl hc) (by first | exact .here | exact .there .here | exact .there (.there .here) | exact .there (.there (.there .here)) | exact .there (.there (.there (.there .here))) | exact .there (.there (.there (.there (.there .here)))) | exact .there (.there (.there (.there (.there (.there .here)))))) rfl) rfl ?_ | refine st_g rfl rfl rfl (by first | exact Says.bool _ _ | exact Says.opt _ _ _) (fun hc _ => by exact y_loadW (.opt rfl hc) (by first | exact .here | exact .there .here | exact .there (.there .here) | exact .there (.there (.there .here)) | exact .there (.there (.there (.there .here))) | exact .there (.there (.there (.there (.there .here)))) | exact .there (.there (.there (.there (.there (.there .here)))))) (by rfl)) rfl ?_ | refine st_g rfl rfl rfl (by first | exact Says.bool _ _ | exact Says.opt _ _ _) (fun hc _ => by exact y_loadAgg (.opt rfl hc) (by first | exact .here | exact .there .here | exact .there (.there .here) | exact .there (.there (.there .here)) | exact .there (.there (.there (.there .here))) | exact .there (.there (.there (.there (.there .here)))) | exact .there (.there (.there (.there (.there (.there .here)))))) (Nat.le_of_ble_eq_true rfl)) rfl ?_
  refine st_g rfl rfl rfl (by first | exact Says.bool _ _ | exact Says.opt _ _ _) (fun hc _ => by exact y_lss (.opt rfl hc) (.plain rfl)) rfl ?_
  refine st_p (fun _ => by exact y_or (.plain rfl) rfl rfl) rfl ?_
  refine st_p (fun _ => by exact y_move (.plain rfl)) rfl ?_
  first | refine st_g rfl rfl rfl (by first | exact Says.bool _ _ | exact Says.opt _ _ _) (fun hc _ => by exact y_fieldPtr (.plain rfl)) rfl ?_ | refine st_g rfl rfl rfl (by first | exact Says.bool _ _ | exact Says.opt _ _ _) (fun hc _ => by exact y_fieldE (.plain rfl) (Nat.le_of_ble_eq_true rfl)) rfl ?_
  first | refine st_g rfl rfl rfl (by first | exact Says.bool _ _ | exact Says.opt _ _ _) (fun hc _ => by exact y_loadE (.opt rfl hc) rfl) rfl ?_ | refine st_g rfl rfl rfl (by first | exact Says.bool _ _ | exact Says.opt _ _ _) (fun hc _ => by exact y_loadEW (.opt rfl hc) (by rfl)) rfl ?_ | refine st_g rfl rfl rfl (by first | exact Says.bool _ _ | exact Says.opt _ _ _) (fun hc _ => by exact y_loadEAgg (.opt rfl hc) (Nat.le_of_ble_eq_true rfl)) rfl ?_ | refine st_g rfl rfl rfl (by first | exact Says.bool _ _ | exact Says.opt _ _ _) (fun hc _ => by exact y_load (.opt rfl hc) (by first | exact .here | exact .there .here | exact .there (.there .here) | exact .there (.there (.there .here)) | exact .there (.there (.there (.there .here))) | exact .there (.there (.there (.there (.there .here)))) | exact .there (.there (.there (.there (.there (.there .here)))))) rfl) rfl ?_ | refine st_g rfl rfl rfl (by first | exact Says.bool _ _ | exact Says.opt _ _ _) (fun hc _ => by exact y_loadW (.opt rfl hc) (by first | exact .here | exact .there .here | exact .there (.there .here) | exact .there (.there (.there .here)) | exact .there (.there (.there (.there .here))) | exact .there (.there (.there (.there (.there .here)))) | exact .there (.there (.there (.there (.there (.there .here)))))) (by rfl)) rfl ?_ | refine st_g rfl rfl rfl (by first | exact Says.bool _ _ | exact Says.opt _ _ _) (fun hc _ => by exact y_loadAgg (.opt rfl hc) (by first | exact .here | exact .there .here | exact .there (.there .here) | exact .there (.there (.there .here)) | exact .there (.there (.there (.there .here))) | exact .there (.there (.there (.there (.there .here)))) | exact .there (.there (.there (.there (.there (.there .here)))))) (Nat.le_of_ble_eq_true rfl)) rfl ?_
  refine st_g rfl rfl rfl (by first | exact Says.bool _ _ | exact Says.opt _ _ _) (fun hc _ => by exact y_gtr (.opt rfl hc) (.plain rfl)) rfl ?_
  refine st_p (fun _ => by exact y_or (.plain rfl) rfl rfl) rfl ?_
  refine st_p (fun _ => by exact y_assign (.plain rfl)) rfl ?_
  refine aops_nil ?_
  refine awp_cond rfl (fun h1 => ?_) (fun h1 => ?_)
  · skip
    try simp only [decide_eq_true_eq, decide_eq_false_iff_not, Bool.not_eq_true', Bool.not_eq_false', Bool.not_eq_true, Bool.not_eq_false, List.length_map, Int.ofNat_lt, Int.ofNat_le, Bool.or_eq_true, Bool.and_eq_true, Bool.or_eq_false_iff, Bool.and_eq_false_iff] at h1
    refine awp_seq ?_
    refine awp_region ?_
    refine st_p (fun _ => by exact y_assign (.plain rfl)) rfl ?_
    refine aops_nil ?_
    refine awp_ret ?_
    refine ret1 (.inr rfl) rfl ?_
    exact ⟨AV.bool_congr (by simp [valid]; omega), rfl⟩
  · skip
    try simp only [decide_eq_true_eq, decide_eq_false_iff_not, Bool.not_eq_true', Bool.not_eq_false', Bool.not_eq_true, Bool.not_eq_false, List.length_map, Int.ofNat_lt, Int.ofNat_le, Bool.or_eq_true, Bool.and_eq_true, Bool.or_eq_false_iff, Bool.and_eq_false_iff] at h1
    refine awp_skip ?_
    refine awp_seq ?_
    refine awp_region ?_
    first | refine st_p (fun _ => by exact y_fieldPtr (.plain rfl)) rfl ?_ | refine st_p (fun _ => by exact y_fieldE (.plain rfl) (Nat.le_of_ble_eq_true rfl)) rfl ?_
    first | refine st_p (fun _ => by exact y_loadE (.plain rfl) rfl) rfl ?_ | refine st_p (fun _ => by exact y_loadEW (.plain rfl) (by rfl)) rfl ?_ | refine st_p (fun _ => by exact y_loadEAgg (.plain rfl) (Nat.le_of_ble_eq_true rfl)) rfl ?_ | refine st_p (fun _ => by exact y_load (.plain rfl) (by first | exact .here | exact .there .here | exact .there (.there .here) | exact .there (.there (.there .here)) | exact .there (.there (.there (.there .here))) | exact .there (.there (.there (.there (.there .here)))) | exact .there (.there (.there (.there (.there (.there .here)))))) rfl) rfl ?_ | refine st_p (fun _ => by exact y_loadW (.plain rfl) (by first | exact .here | exact .there .here | exact .there (.there .here) | exact .there (.there (.there .here)) | exact .there (.there (.there (.there .here))) | exact .there (.there (.there (.there (.there .here)))) | exact .there (.there (.there (.there (.there (.there .here)))))) (by rfl)) rfl ?_ | refine st_p (fun _ => by exact y_loadAgg (.plain rfl) (by first | exact .here | exact .there .here | exact .there (.there .here) | exact .there (.there (.there .here)) | exact .there (.there (.there (.there .here))) | exact .there (.there (.there (.there (.there .here)))) | exact .there (.there (.there (.there (.there (.there .here)))))) (Nat.le_of_ble_eq_true rfl)) rfl ?_
    refine st_p (fun _ => by exact y_geq (.plain rfl) (.plain rfl)) rfl ?_
    refine st_p (fun _ => by exact y_move (.plain rfl)) rfl ?_
    first | refine st_g rfl rfl rfl (by first | exact Says.bool _ _ | exact Says.opt _ _ _) (fun hc _ => by exact y_fieldPtr (.plain rfl)) rfl ?_ | refine st_g rfl rfl rfl (by first | exact Says.bool _ _ | exact Says.opt _ _ _) (fun hc _ => by exact y_fieldE (.plain rfl) (Nat.le_of_ble_eq_true rfl)) rfl ?_
    first | refine st_g rfl rfl rfl (by first | exact Says.bool _ _ | exact Says.opt _ _ _) (fun hc _ => by exact y_loadE (.opt rfl hc) rfl) rfl ?_ | refine st_g rfl rfl rfl (by first | exact Says.bool _ _ | exact Says.opt _ _ _) (fun hc _ => by exact y_loadEW (.opt rfl hc) (by rfl)) rfl ?_ | refine st_g rfl rfl rfl (by first | exact Says.bool _ _ | exact Says.opt _ _ _) (fun hc _ => by exact y_loadEAgg (.opt rfl hc) (Nat.le_of_ble_eq_true rfl)) rfl ?_ | refine st_g rfl rfl rfl (by first | exact Says.bool _ _ | exact Says.opt _ _ _) (fun hc _ => by exact y_load (.opt rfl hc) (by first | exact .here | exact .there .here | exact .there (.there .here) | exact .there (.there (.there .here)) | exact .there (.there (.there (.there .here))) | exact .there (.there (.there (.there (.there .here)))) | exact .there (.there (.there (.there (.there (.there .here)))))) rfl) rfl ?_ | refine st_g rfl rfl rfl (by first | exact Says.bool _ _ | exact Says.opt _ _ _) (fun hc _ => by exact y_loadW (.opt rfl hc) (by first | exact .here | exact .there .here | exact .there (.there .here) | exact .there (.there (.there .here)) | exact .there (.there (.there (.there .here))) | exact .there (.there (.there (.there (.there .here)))) | exact .there (.there (.there (.there (.there (.there .here)))))) (by rfl)) rfl ?_ | refine st_g rfl rfl rfl (by first | exact Says.bool _ _ | exact Says.opt _ _ _) (fun hc _ => by exact y_loadAgg (.opt rfl hc) (by first | exact .here | exact .there .here | exact .there (.there .here) | exact .there (.there (.there .here)) | exact .there (.there (.there (.there .here))) | exact .there (.there (.there (.there (.there .here)))) | exact .there (.there (.there (.there (.there (.there .here)))))) (Nat.le_of_ble_eq_true rfl)) rfl ?_
    refine st_g rfl rfl rfl (by first | exact Says.bool _ _ | exact Says.opt _ _ _) (fun hc _ => by exact y_leq (.opt rfl hc) (.plain rfl)) rfl ?_
    refine st_p (fun _ => by exact y_and (.plain rfl) rfl rfl) rfl ?_
    refine st_p (fun _ => by exact y_move (.plain rfl)) rfl ?_
    first | refine st_g rfl rfl rfl (by first | exact Says.bool _ _ | exact Says.opt _ _ _) (fun hc _ => by exact y_fieldPtr (.plain rfl)) rfl ?_ | refine st_g rfl rfl rfl (by first | exact Says.bool _ _ | exact Says.opt _ _ _) (fun hc _ => by exact y_fieldE (.plain rfl) (Nat.le_of_ble_eq_true rfl)) rfl ?_
    first | refine st_g rfl rfl rfl (by first | exact Says.bool _ _ | exact Says.opt _ _ _) (fun hc _ => by exact y_loadE (.opt rfl hc) rfl) rfl ?_ | refine st_g rfl rfl rfl (by first | exact Says.bool _ _ | exact Says.opt _ _ _) (fun hc _ => by exact y_loadEW (.opt rfl hc) (by rfl)) rfl ?_ | refine st_g rfl rfl rfl (by first | exact Says.bool _ _ | exact Says.opt _ _ _) (fun hc _ => by exact y_loadEAgg (.opt rfl hc) (Nat.le_of_ble_eq_true rfl)) rfl ?_ | refine st_g rfl rfl rfl (by first | exact Says.bool _ _ | exact Says.opt _ _ _) (fun hc _ => by exact y_load (.opt rfl hc) (by first | exact .here | exact .there .here | exact .there (.there .here) | exact .there (.there (.there .here)) | exact .there (.there (.there (.there .here))) | exact .there (.there (.there (.there (.there .here)))) | exact .there (.there (.there (.there (.there (.there .here)))))) rfl) rfl ?_ | refine st_g rfl rfl rfl (by first | exact Says.bool _ _ | exact Says.opt _ _ _) (fun hc _ => by exact y_loadW (.opt rfl hc) (by first | exact .here | exact .there .here | exact .there (.there .here) | exact .there (.there (.there .here)) | exact .there (.there (.there (.there .here))) | exact .there (.there (.there (.there (.there .here)))) | exact .there (.there (.there (.there (.there (.there .here)))))) (by rfl)) rfl ?_ | refine st_g rfl rfl rfl (by first | exact Says.bool _ _ | exact Says.opt _ _ _) (fun hc _ => by exact y_loadAgg (.opt rfl hc) (by first | exact .here | exact .there .here | exact .there (.there .here) | exact .there (.there (.there .here)) | exact .there (.there (.there (.there .here))) | exact .there (.there (.there (.there (.there .here)))) | exact .there (.there (.there (.there (.there (.there .here)))))) (Nat.le_of_ble_eq_true rfl)) rfl ?_
    refine st_g rfl rfl rfl (by first | exact Says.bool _ _ | exact Says.opt _ _ _) (fun hc _ => by exact y_geq (.opt rfl hc) (.plain rfl)) rfl ?_
    refine st_p (fun _ => by exact y_and (.plain rfl) rfl rfl) rfl ?_
    refine st_p (fun _ => by exact y_move (.plain rfl)) rfl ?_
    first | refine st_g rfl rfl rfl (by first | exact Says.bool _ _ | exact Says.opt _ _ _) (fun hc _ => by exact y_fieldPtr (.plain rfl)) rfl ?_ | refine st_g rfl rfl rfl (by first | exact Says.bool _ _ | exact Says.opt _ _ _) (fun hc _ => by exact y_fieldE (.plain rfl) (Nat.le_of_ble_eq_true rfl)) rfl ?_
    first | refine st_g rfl rfl rfl (by first | exact Says.bool _ _ | exact Says.opt _ _ _) (fun hc _ => by exact y_loadE (.opt rfl hc) rfl) rfl ?_ | refine st_g rfl rfl rfl (by first | exact Says.bool _ _ | exact Says.opt _ _ _) (fun hc _ => by exact y_loadEW (.opt rfl hc) (by rfl)) rfl ?_ | refine st_g rfl rfl rfl (by first | exact Says.bool _ _ | exact Says.opt _ _ _) (fun hc _ => by exact y_loadEAgg (.opt rfl hc) (Nat.le_of_ble_eq_true rfl)) rfl ?_ | refine st_g rfl rfl rfl (by first | exact Says.bool _ _ | exact Says.opt _ _ _) (fun hc _ => by exact y_load (.opt rfl hc) (by first | exact .here | exact .there .here | exact .there (.there .here) | exact .there (.there (.there .here)) | exact .there (.there (.there (.there .here))) | exact .there (.there (.there (.there (.there .here)))) | exact .there (.there (.there (.there (.there (.there .here)))))) rfl) rfl ?_ | refine st_g rfl rfl rfl (by first | exact Says.bool _ _ | exact Says.opt _ _ _) (fun hc _ => by exact y_loadW (.opt rfl hc) (by first | exact .here | exact .there .here | exact .there (.there .here) | exact .there (.there (.there .here)) | exact .there (.there (.there (.there .here))) | exact .there (.there (.there (.there (.there .here)))) | exact .there (.there (.there (.there (.there (.there .here)))))) (by rfl)) rfl ?_ | refine st_g rfl rfl rfl (by first | exact Says.bool _ _ | exact Says.opt _ _ _) (fun hc _ => by exact y_loadAgg (.opt rfl hc) (by first | exact .here | exact .there .here | exact .there (.there .here) | exact .there (.there (.there .here)) | exact .there (.there (.there (.there .here))) | exact .there (.there (.there (.there (.there .here)))) | exact .there (.there (.there (.there (.there (.there .here)))))) (Nat.le_of_ble_eq_true rfl)) rfl ?_
    refine st_g rfl rfl rfl (by first | exact Says.bool _ _ | exact Says.opt _ _ _) (fun hc _ => by exact y_lss (.opt rfl hc) (.plain rfl)) rfl ?_
    refine st_p (fun _ => by exact y_and (.plain rfl) rfl rfl) rfl ?_
    refine st_p (fun _ => by exact y_assign (.plain rfl)) rfl ?_
    refine aops_nil ?_
    refine awp_ret ?_
    refine ret1 (.inr rfl) rfl ?_
    exact ⟨AV.bool_congr (by simp [valid]; omega), rfl⟩

theorem within_c (a b c : Int) : ACalls Try.prog 45 [.int a, .int b, .int c] [] (fun v st => v = .bool (decide (b ≤ a) && decide (a ≤ c)) ∧ st = []) := by
  refine acalls_body Try.func45 (by kernel_rfl) rfl Try.ntmps45 (Nat.le_of_ble_eq_true rfl) ?_
  rw [Try.results45]
  refine awp_seq ?_
  refine awp_region ?_
  refine st_p (fun _ => by exact y_assign (.plain rfl)) rfl ?_
  refine aops_nil ?_
  refine awp_seq ?_
  refine awp_region ?_
  refine st_p (fun _ => by exact y_move (.plain rfl)) rfl ?_
  refine st_p (fun _ => by exact y_move (.plain rfl)) rfl ?_
  refine st_p (fun _ => by exact y_geq (.plain rfl) (.plain rfl)) rfl ?_
  refine st_p (fun _ => by exact y_move (.plain rfl)) rfl ?_
  refine st_g rfl rfl rfl (by first | exact Says.bool _ _ | exact Says.opt _ _ _) (fun hc _ => by exact y_move (.plain rfl)) rfl ?_
  refine st_g rfl rfl rfl (by first | exact Says.bool _ _ | exact Says.opt _ _ _) (fun hc _ => by exact y_move (.plain rfl)) rfl ?_
  refine st_g rfl rfl rfl (by first | exact Says.bool _ _ | exact Says.opt _ _ _) (fun hc _ => by exact y_leq (.opt rfl hc) (.opt rfl hc)) rfl ?_
  refine st_p (fun _ => by exact y_and (.plain rfl) rfl rfl) rfl ?_
  refine st_p (fun _ => by exact y_assign (.plain rfl)) rfl ?_
  refine aops_nil ?_
  refine awp_ret ?_
  refine ret1 (.inr rfl) rfl ?_
  exact ⟨rfl, rfl⟩

theorem validR_c (w : W) : ACalls Try.prog 37 [avW w] [] (fun v st => v = .bool (valid w) ∧ st = []) := by
  refine acalls_body Try.func37 (by kernel_rfl) rfl Try.ntmps37 (Nat.le_of_ble_eq_true rfl) ?_
  rw [Try.results37]
  refine awp_seq ?_
  refine awp_region ?_
  refine st_n (fun _ => by exact y_box (.plain rfl)) rfl fun n1 => ?_
  refine st_p (fun _ => by exact y_assign (.plain rfl)) rfl ?_
  refine aops_nil ?_
  refine awp_seq ?_
  refine awp_region ?_
  first | refine st_p (fun _ => by exact y_fieldPtr (.plain rfl)) rfl ?_ | refine st_p (fun _ => by exact y_fieldE (.plain rfl) (Nat.le_of_ble_eq_true rfl)) rfl ?_
  first | refine st_p (fun _ => by exact y_loadE (.plain rfl) rfl) rfl ?_ | refine st_p (fun _ => by exact y_loadEW (.plain rfl) (by rfl)) rfl ?_ | refine st_p (fun _ => by exact y_loadEAgg (.plain rfl) (Nat.le_of_ble_eq_true rfl)) rfl ?_ | refine st_p (fun _ => by exact y_load (.plain rfl) (by first | exact .here | exact .there .here | exact .there (.there .here) | exact .there (.there (.there .here)) | exact .there (.there (.there (.there .here))) | exact .there (.there (.there (.there (.there .here)))) | exact .there (.there (.there (.there (.there (.there .here)))))) rfl) rfl ?_ | refine st_p (fun _ => by exact y_loadW (.plain rfl) (by first | exact .here | exact .there .here | exact .there (.there .here) | exact .there (.there (.there .here)) | exact .there (.there (.there (.there .here))) | exact .there (.there (.there (.there (.there .here)))) | exact .there (.there (.there (.there (.there (.there .here)))))) (by rfl)) rfl ?_ | refine st_p (fun _ => by exact y_loadAgg (.plain rfl) (by first | exact .here | exact .there .here | exact .there (.there .here) | exact .there (.there (.there .here)) | exact .there (.there (.there (.there .here))) | exact .there (.there (.there (.there (.there .here)))) | exact .there (.there (.there (.there (.there (.there .here)))))) (Nat.le_of_ble_eq_true rfl)) rfl ?_
  refine aops_call (blt_lt rfl) (.plain rfl) (.cons (.plain rfl) (.cons (.plain rfl) (.cons (.plain rfl) .nil))) (ACalls.here (within_c _ _ _) ?_)
  refine st_p (fun _ => by exact y_move (.plain rfl)) rfl ?_
  first | refine st_g rfl rfl rfl (by first | exact Says.bool _ _ | exact Says.opt _ _ _) (fun hc _ => by exact y_fieldPtr (.plain rfl)) rfl ?_ | refine st_g rfl rfl rfl (by first | exact Says.bool _ _ | exact Says.opt _ _ _) (fun hc _ => by exact y_fieldE (.plain rfl) (Nat.le_of_ble_eq_true rfl)) rfl ?_
  first | refine st_g rfl rfl rfl (by first | exact Says.bool _ _ | exact Says.opt _ _ _) (fun hc _ => by exact y_loadE (.opt rfl hc) rfl) rfl ?_ | refine st_g rfl rfl rfl (by first | exact Says.bool _ _ | exact Says.opt _ _ _) (fun hc _ => by exact y_loadEW (.opt rfl hc) (by rfl)) rfl ?_ | refine st_g rfl rfl rfl (by first | exact Says.bool _ _ | exact Says.opt _ _ _) (fun hc _ => by exact y_loadEAgg (.opt rfl hc) (Nat.le_of_ble_eq_true rfl)) rfl ?_ | refine st_g rfl rfl rfl (by first | exact Says.bool _ _ | exact Says.opt _ _ _) (fun hc _ => by exact y_load (.opt rfl hc) (by first | exact .here | exact .there .here | exact .there (.there .here) | exact .there (.there (.there .here)) | exact .there (.there (.there (.there .here))) | exact .there (.there (.there (.there (.there .here)))) | exact .there (.there (.there (.there (.there (.there .here)))))) rfl) rfl ?_ | refine st_g rfl rfl rfl (by first | exact Says.bool _ _ | exact Says.opt _ _ _) (fun hc _ => by exact y_loadW (.opt rfl hc) (by first | exact .here | exact .there .here | exact .there (.there .here) | exact .there (.there (.there .here)) | exact .there (.there (.there (.there .here))) | exact .there (.there (.there (.there (.there .here)))) | exact .there (.there (.there (.there (.there (.there .here)))))) (by rfl)) rfl ?_ | refine st_g rfl rfl rfl (by first | exact Says.bool _ _ | exact Says.opt _ _ _) (fun hc _ => by exact y_loadAgg (.opt rfl hc) (by first | exact .here | exact .there .here | exact .there (.there .here) | exact .there (.there (.there .here)) | exact .there (.there (.there (.there .here))) | exact .there (.there (.there (.there (.there .here)))) | exact .there (.there (.there (.there (.there (.there .here)))))) (Nat.le_of_ble_eq_true rfl)) rfl ?_
  refine st_g rfl rfl rfl (by first | exact Says.bool _ _ | exact Says.opt _ _ _) (fun hc _ => by exact y_call (.plain rfl) (.cons (.opt rfl hc) (.cons (.plain rfl) (.cons (.plain rfl) .nil))) (ACalls.pure (within_c _ _ _))) rfl ?_
  refine st_p (fun _ => by exact y_and (.plain rfl) rfl rfl) rfl ?_
  refine st_p (fun _ => by exact y_move (.plain rfl)) rfl ?_
  first | refine st_g rfl rfl rfl (by first | exact Says.bool _ _ | exact Says.opt _ _ _) (fun hc _ => by exact y_fieldPtr (.plain rfl)) rfl ?_ | refine st_g rfl rfl rfl (by first | exact Says.bool _ _ | exact Says.opt _ _ _) (fun hc _ => by exact y_fieldE (.plain rfl) (Nat.le_of_ble_eq_true rfl)) rfl ?_
  first | refine st_g rfl rfl rfl (by first | exact Says.bool _ _ | exact Says.opt _ _ _) (fun hc _ => by exact y_loadE (.opt rfl hc) rfl) rfl ?_ | refine st_g rfl rfl rfl (by first | exact Says.bool _ _ | exact Says.opt _ _ _) (fun hc _ => by exact y_loadEW (.opt rfl hc) (by rfl)) rfl ?_ | refine st_g rfl rfl rfl (by first | exact Says.bool _ _ | exact Says.opt _ _ _) (fun hc _ => by exact y_loadEAgg (.opt rfl hc) (Nat.le_of_ble_eq_true rfl)) rfl ?_ | refine st_g rfl rfl rfl (by first | exact Says.bool _ _ | exact Says.opt _ _ _) (fun hc _ => by exact y_load (.opt rfl hc) (by first | exact .here | exact .there .here | exact .there (.there .here) | exact .there (.there (.there .here)) | exact .there (.there (.there (.there .here))) | exact .there (.there (.there (.there (.there .here)))) | exact .there (.there (.there (.there (.there (.there .here)))))) rfl) rfl ?_ | refine st_g rfl rfl rfl (by first | exact Says.bool _ _ | exact Says.opt _ _ _) (fun hc _ => by exact y_loadW (.opt rfl hc) (by first | exact .here | exact .there .here | exact .there (.there .here) | exact .there (.there (.there .here)) | exact .there (.there (.there (.there .here))) | exact .there (.there (.there (.there (.there .here)))) | exact .there (.there (.there (.there (.there (.there .here)))))) (by rfl)) rfl ?_ | refine st_g rfl rfl rfl (by first | exact Says.bool _ _ | exact Says.opt _ _ _) (fun hc _ => by exact y_loadAgg (.opt rfl hc) (by first | exact .here | exact .there .here | exact .there (.there .here) | exact .there (.there (.there .here)) | exact .there (.there (.there (.there .here))) | exact .there (.there (.there (.there (.there .here)))) | exact .there (.there (.there (.there (.there (.there .here)))))) (Nat.le_of_ble_eq_true rfl)) rfl ?_
  refine st_g rfl rfl rfl (by first | exact Says.bool _ _ | exact Says.opt _ _ _) (fun hc _ => by exact y_call (.plain rfl) (.cons (.opt rfl hc) (.cons (.plain rfl) (.cons (.plain rfl) .nil))) (ACalls.pure (within_c _ _ _))) rfl ?_
  refine st_p (fun _ => by exact y_and (.plain rfl) rfl rfl) rfl ?_
  refine st_p (fun _ => by exact y_move (.plain rfl)) rfl ?_
  first | refine st_g rfl rfl rfl (by first | exact Says.bool _ _ | exact Says.opt _ _ _) (fun hc _ => by exact y_fieldPtr (.plain rfl)) rfl ?_ | refine st_g rfl rfl rfl (by first | exact Says.bool _ _ | exact Says.opt _ _ _) (fun hc _ => by exact y_fieldE (.plain rfl) (Nat.le_of_ble_eq_true rfl)) rfl ?_
  first | refine st_g rfl rfl rfl (by first | exact Says.bool _ _ | exact Says.opt _ _ _) (fun hc _ => by exact y_loadE (.opt rfl hc) rfl) rfl ?_ | refine st_g rfl rfl rfl (by first | exact Says.bool _ _ | exact Says.opt _ _ _) (fun hc _ => by exact y_loadEW (.opt rfl hc) (by rfl)) rfl ?_ | refine st_g rfl rfl rfl (by first | exact Says.bool _ _ | exact Says.opt _ _ _) (fun hc _ => by exact y_loadEAgg (.opt rfl hc) (Nat.le_of_ble_eq_true rfl)) rfl ?_ | refine st_g rfl rfl rfl (by first | exact Says.bool _ _ | exact Says.opt _ _ _) (fun hc _ => by exact y_load (.opt rfl hc) (by first | exact .here | exact .there .here | exact .there (.there .here) | exact .there (.there (.there .here)) | exact .there (.there (.there (.there .here))) | exact .there (.there (.there (.there (.there .here)))) | exact .there (.there (.there (.there (.there (.there .here)))))) rfl) rfl ?_ | refine st_g rfl rfl rfl (by first | exact Says.bool _ _ | exact Says.opt _ _ _) (fun hc _ => by exact y_loadW (.opt rfl hc) (by first | exact .here | exact .there .here | exact .there (.there .here) | exact .there (.there (.there .here)) | exact .there (.there (.there (.there .here))) | exact .there (.there (.there (.there (.there .here)))) | exact .there (.there (.there (.there (.there (.there .here)))))) (by rfl)) rfl ?_ | refine st_g rfl rfl rfl (by first | exact Says.bool _ _ | exact Says.opt _ _ _) (fun hc _ => by exact y_loadAgg (.opt rfl hc) (by first | exact .here | exact .there .here | exact .there (.there .here) | exact .there (.there (.there .here)) | exact .there (.there (.there (.there .here))) | exact .there (.there (.there (.there (.there .here)))) | exact .there (.there (.there (.there (.there (.there .here)))))) (Nat.le_of_ble_eq_true rfl)) rfl ?_
  refine st_g rfl rfl rfl (by first | exact Says.bool _ _ | exact Says.opt _ _ _) (fun hc _ => by exact y_call (.plain rfl) (.cons (.opt rfl hc) (.cons (.plain rfl) (.cons (.plain rfl) .nil))) (ACalls.pure (within_c _ _ _))) rfl ?_
  refine st_p (fun _ => by exact y_and (.plain rfl) rfl rfl) rfl ?_
  refine st_p (fun _ => by exact y_move (.plain rfl)) rfl ?_
  first | refine st_g rfl rfl rfl (by first | exact Says.bool _ _ | exact Says.opt _ _ _) (fun hc _ => by exact y_fieldPtr (.plain rfl)) rfl ?_ | refine st_g rfl rfl rfl (by first | exact Says.bool _ _ | exact Says.opt _ _ _) (fun hc _ => by exact y_fieldE (.plain rfl) (Nat.le_of_ble_eq_true rfl)) rfl ?_
  first | refine st_g rfl rfl rfl (by first | exact Says.bool _ _ | exact Says.opt _ _ _) (fun hc _ => by exact y_loadE (.opt rfl hc) rfl) rfl ?_ | refine st_g rfl rfl rfl (by first | exact Says.bool _ _ | exact Says.opt _ _ _) (fun hc _ => by exact y_loadEW (.opt rfl hc) (by rfl)) rfl ?_ | refine st_g rfl rfl rfl (by first | exact Says.bool _ _ | exact Says.opt _ _ _) (fun hc _ => by exact y_loadEAgg (.opt rfl hc) (Nat.le_of_ble_eq_true rfl)) rfl ?_ | refine st_g rfl rfl rfl (by first | exact Says.bool _ _ | exact Says.opt _ _ _) (fun hc _ => by exact y_load (.opt rfl hc) (by first | exact .here | exact .there .here | exact .there (.there .here) | exact .there (.there (.there .here)) | exact .there (.there (.there (.there .here))) | exact .there (.there (.there (.there (.there .here)))) | exact .there (.there (.there (.there (.there (.there .here)))))) rfl) rfl ?_ | refine st_g rfl rfl rfl (by first | exact Says.bool _ _ | exact Says.opt _ _ _) (fun hc _ => by exact y_loadW (.opt rfl hc) (by first | exact .here | exact .there .here | exact .there (.there .here) | exact .there (.there (.there .here)) | exact .there (.there (.there (.there .here))) | exact .there (.there (.there (.there (.there .here)))) | exact .there (.there (.there (.there (.there (.there .here)))))) (by rfl)) rfl ?_ | refine st_g rfl rfl rfl (by first | exact Says.bool _ _ | exact Says.opt _ _ _) (fun hc _ => by exact y_loadAgg (.opt rfl hc) (by first | exact .here | exact .there .here | exact .there (.there .here) | exact .there (.there (.there .here)) | exact .there (.there (.there (.there .here))) | exact .there (.there (.there (.there (.there .here)))) | exact .there (.there (.there (.there (.there (.there .here)))))) (Nat.le_of_ble_eq_true rfl)) rfl ?_
  refine st_g rfl rfl rfl (by first | exact Says.bool _ _ | exact Says.opt _ _ _) (fun hc _ => by exact y_call (.plain rfl) (.cons (.opt rfl hc) (.cons (.plain rfl) (.cons (.plain rfl) .nil))) (ACalls.pure (within_c _ _ _))) rfl ?_
  refine st_p (fun _ => by exact y_and (.plain rfl) rfl rfl) rfl ?_
  refine st_p (fun _ => by exact y_assign (.plain rfl)) rfl ?_
  refine aops_nil ?_
  refine awp_ret ?_
  refine ret1 (.inr rfl) rfl ?_
  exact ⟨AV.bool_congr (by simp [valid]; omega), rfl⟩

theorem great_c (l : List W) : ACalls Try.prog 11 [slW l] [] (fun v st => v = .bool (decide (12 < l.length)) ∧ st = []) := by
  refine acalls_body Try.func11 (by kernel_rfl) rfl Try.ntmps11 (Nat.le_of_ble_eq_true rfl) ?_
  rw [Try.results11]
  refine awp_seq ?_
  refine awp_region ?_
  refine st_p (fun _ => by exact y_assign (.plain rfl)) rfl ?_
  refine aops_nil ?_
  refine awp_seq ?_
  refine awp_region ?_
  refine st_p (fun _ => by exact y_move (.plain rfl)) rfl ?_
  first | refine st_p (fun _ => by exact y_len (.plain rfl)) rfl ?_ | refine st_p (fun _ => by exact y_lenArr (.plain rfl)) rfl ?_
  refine st_p (fun _ => by exact y_gtr (.plain rfl) (.plain rfl)) rfl ?_
  refine st_p (fun _ => by exact y_assign (.plain rfl)) rfl ?_
  refine aops_nil ?_
  refine awp_ret ?_
  refine ret1 (.inr rfl) rfl ?_
  exact ⟨AV.bool_congr (by simp; omega), rfl⟩

theorem find_c (l : List W) (t : Int) (hl : l.length ≤ 1000000) : ACalls Try.prog 18 [slW l, .int t] [] (fun v st => v = .tup [.int (findI l t), .bool (findB l t)] ∧ st = []) := by
  refine acalls_body Try.func18 (by kernel_rfl) rfl Try.ntmps18 (Nat.le_of_ble_eq_true rfl) ?_
  rw [Try.results18]
  refine awp_seq ?_
  refine awp_region ?_
  refine st_p (fun _ => by exact y_assign (.plain rfl)) rfl ?_
  refine st_p (fun _ => by exact y_assign (.plain rfl)) rfl ?_
  refine aops_nil ?_
  refine awp_seq ?_
  refine awp_seq ?_
  refine awp_region ?_
  refine st_p (fun _ => by exact y_move (.plain rfl)) rfl ?_
  first | refine st_p (fun _ => by exact y_len (.plain rfl)) rfl ?_ | refine st_p (fun _ => by exact y_lenArr (.plain rfl)) rfl ?_
  refine st_p (fun _ => by exact y_move (.plain rfl)) rfl ?_
  refine aops_nil ?_
  refine awp_block ?_
  refine awp_loop (X := Nat) (fun x => [(0, slW l), (1, .int t), (8, slW l), (9, .int ((l.map encW).length : Int)), (10, .int (x : Int))]) (fun x => []) (fun x => x ≤ l.length ∧ ∀ i (h : i < l.length), i < x → l[i].task ≠ t) (fun x => l.length - x) 0 ⟨Nat.zero_le _, by omega⟩ ?_ ?_
  · exact Weak.of (by (repeat (first | exact .nil _ | refine .cons rfl (by first | exact AV.Imp.refl _ | exact AV.Imp.grow_sl | exact AV.Imp.full_sl | exact AV.Imp.own_sl | exact AV.Imp.nil_sl | exact AV.Imp.nil_full | exact AV.Imp.nil_grow | exact AV.Imp.full_grow | exact AV.Imp.own_grow | exact AV.Imp.of_eq (congrArg AV.int (by omega)) | exact AV.Imp.of_eq (by simp; try omega)) ?_)); done) (by (repeat (first | exact .nil _ | refine .cons (by first | exact .here | exact .there .here | exact .there (.there .here) | exact .there (.there (.there .here)) | exact .there (.there (.there (.there .here))) | exact .there (.there (.there (.there (.there .here)))) | exact .there (.there (.there (.there (.there (.there .here)))))) ?_)); done)
  · rintro k ⟨hk, hno⟩
    refine awp_seq ?_
    refine awp_region ?_
    refine st_p (fun _ => by exact y_lss (.plain rfl) (.plain rfl)) rfl ?_
    refine aops_nil ?_
    refine awp_seq ?_
    refine awp_cond rfl (fun h1 => ?_) (fun h1 => ?_)
    · skip
      try simp only [decide_eq_true_eq, decide_eq_false_iff_not, Bool.not_eq_true', Bool.not_eq_false', Bool.not_eq_true, Bool.not_eq_false, List.length_map, Int.ofNat_lt, Int.ofNat_le, Bool.or_eq_true, Bool.and_eq_true, Bool.or_eq_false_iff, Bool.and_eq_false_iff] at h1
      refine awp_skip ?_
      refine awp_seq ?_
      refine awp_block ?_
      refine awp_seq ?_
      refine awp_region ?_
      refine st_p (fun _ => by exact y_move (.plain rfl)) rfl ?_
      first | refine st_p (fun _ => by exact y_indexMap (.plain rfl) (.plain rfl) rfl (by refine ⟨?_, ?_⟩; (first | omega | (simp; omega) | (simp at hc; omega) | (simp at hc ⊢; omega) | (simp; done)); rfl)) rfl ?_ | refine st_p (fun _ => by exact y_indexT (.plain rfl) (.plain rfl) (by first | omega | (simp; omega) | (simp at hc; omega) | (simp at hc ⊢; omega) | (simp; done)) (by first | omega | (simp; omega) | (simp at hc; omega) | (simp at hc ⊢; omega) | (simp; done))) rfl ?_ | refine st_p (fun _ => by exact y_index (.plain rfl) (.plain rfl) (by omega) rfl) rfl ?_ | refine st_p (fun _ => by exact y_indexArr (.plain rfl) (.plain rfl) rfl (by first | omega | (simp; omega) | (simp at hc; omega) | (simp at hc ⊢; omega) | (simp; done))) rfl ?_ | refine st_p (fun _ => by exact y_indexVar (.plain rfl) (.plain rfl) rfl (by first | omega | (simp; omega) | (simp at hc; omega) | (simp at hc ⊢; omega) | (simp; done))) rfl ?_
      first | refine st_p (fun _ => by exact y_loadE (.plain rfl) rfl) rfl ?_ | refine st_p (fun _ => by exact y_loadEW (.plain rfl) (by rfl)) rfl ?_ | refine st_p (fun _ => by exact y_loadEAgg (.plain rfl) (Nat.le_of_ble_eq_true rfl)) rfl ?_ | refine st_p (fun _ => by exact y_load (.plain rfl) (by first | exact .here | exact .there .here | exact .there (.there .here) | exact .there (.there (.there .here)) | exact .there (.there (.there (.there .here))) | exact .there (.there (.there (.there (.there .here)))) | exact .there (.there (.there (.there (.there (.there .here)))))) rfl) rfl ?_ | refine st_p (fun _ => by exact y_loadW (.plain rfl) (by first | exact .here | exact .there .here | exact .there (.there .here) | exact .there (.there (.there .here)) | exact .there (.there (.there (.there .here))) | exact .there (.there (.there (.there (.there .here)))) | exact .there (.there (.there (.there (.there (.there .here)))))) (by rfl)) rfl ?_ | refine st_p (fun _ => by exact y_loadAgg (.plain rfl) (by first | exact .here | exact .there .here | exact .there (.there .here) | exact .there (.there (.there .here)) | exact .there (.there (.there (.there .here))) | exact .there (.there (.there (.there (.there .here)))) | exact .there (.there (.there (.there (.there (.there .here)))))) (Nat.le_of_ble_eq_true rfl)) rfl ?_
      refine st_n (fun _ => by exact y_alloc) rfl fun n1 => ?_
      refine st_p (fun _ => by exact y_assign (.plain rfl)) rfl ?_
      first | refine st_s (fun _ => by exact y_storeW (by rfl) rfl (.plain rfl) (.plain rfl) (by first | exact .here | exact .there .here | exact .there (.there .here) | exact .there (.there (.there .here)) | exact .there (.there (.there (.there .here))) | exact .there (.there (.there (.there (.there .here)))) | exact .there (.there (.there (.there (.there (.there .here)))))) (by rfl)) ?_ | refine st_s (fun _ => by exact y_store (by rfl) rfl (.plain rfl) (.plain rfl) (by first | exact .here | exact .there .here | exact .there (.there .here) | exact .there (.there (.there .here)) | exact .there (.there (.there (.there .here))) | exact .there (.there (.there (.there (.there .here)))) | exact .there (.there (.there (.there (.there (.there .here)))))) (Nat.le_of_ble_eq_true rfl)) ?_
      refine aops_nil ?_
      refine awp_seq ?_
      refine awp_region ?_
      first | refine st_p (fun _ => by exact y_fieldPtr (.plain rfl)) rfl ?_ | refine st_p (fun _ => by exact y_fieldE (.plain rfl) (Nat.le_of_ble_eq_true rfl)) rfl ?_
      first | refine st_p (fun _ => by exact y_loadE (.plain rfl) rfl) rfl ?_ | refine st_p (fun _ => by exact y_loadEW (.plain rfl) (by rfl)) rfl ?_ | refine st_p (fun _ => by exact y_loadEAgg (.plain rfl) (Nat.le_of_ble_eq_true rfl)) rfl ?_ | refine st_p (fun _ => by exact y_load (.plain rfl) (by first | exact .here | exact .there .here | exact .there (.there .here) | exact .there (.there (.there .here)) | exact .there (.there (.there (.there .here))) | exact .there (.there (.there (.there (.there .here)))) | exact .there (.there (.there (.there (.there (.there .here)))))) rfl) rfl ?_ | refine st_p (fun _ => by exact y_loadW (.plain rfl) (by first | exact .here | exact .there .here | exact .there (.there .here) | exact .there (.there (.there .here)) | exact .there (.there (.there (.there .here))) | exact .there (.there (.there (.there (.there .here)))) | exact .there (.there (.there (.there (.there (.there .here)))))) (by rfl)) rfl ?_ | refine st_p (fun _ => by exact y_loadAgg (.plain rfl) (by first | exact .here | exact .there .here | exact .there (.there .here) | exact .there (.there (.there .here)) | exact .there (.there (.there (.there .here))) | exact .there (.there (.there (.there (.there .here)))) | exact .there (.there (.there (.there (.there (.there .here)))))) (Nat.le_of_ble_eq_true rfl)) rfl ?_
      refine st_p (fun _ => by exact y_move (.plain rfl)) rfl ?_
      first | refine st_p (fun _ => by exact y_eql (.plain rfl) (.plain rfl)) rfl ?_ | refine st_p (fun _ => by exact y_eqBool (by rfl) (.plain rfl) (.plain rfl)) rfl ?_ | refine st_p (fun _ => by exact y_eqStruct (.plain rfl) (.plain rfl) .nil) rfl ?_
      refine aops_nil ?_
      refine awp_cond rfl (fun h2 => ?_) (fun h2 => ?_)
      · skip
        try simp only [decide_eq_true_eq, decide_eq_false_iff_not, Bool.not_eq_true', Bool.not_eq_false', Bool.not_eq_true, Bool.not_eq_false, List.length_map, Int.ofNat_lt, Int.ofNat_le, Bool.or_eq_true, Bool.and_eq_true, Bool.or_eq_false_iff, Bool.and_eq_false_iff] at h2
        refine awp_seq ?_
        refine awp_region ?_
        refine st_p (fun _ => by exact y_move (.plain rfl)) rfl ?_
        refine st_p (fun _ => by exact y_assign (.plain rfl)) rfl ?_
        refine st_p (fun _ => by exact y_assign (.plain rfl)) rfl ?_
        refine aops_nil ?_
        refine awp_ret ?_
        refine ret2 (.inr rfl) rfl rfl ?_
        exact ⟨by simp only [findI, findB, find_at l t k h1 h2 hno, Option.isSome_some], rfl⟩
      · skip
        try simp only [decide_eq_true_eq, decide_eq_false_iff_not, Bool.not_eq_true', Bool.not_eq_false', Bool.not_eq_true, Bool.not_eq_false, List.length_map, Int.ofNat_lt, Int.ofNat_le, Bool.or_eq_true, Bool.and_eq_true, Bool.or_eq_false_iff, Bool.and_eq_false_iff] at h2
        refine awp_skip ?_
        refine awp_region ?_
        refine st_p (fun _ => by exact y_add (.plain rfl) (.plain rfl) (by first | omega | (simp; omega) | (simp at hc; omega) | (simp at hc ⊢; omega) | (simp; done))) rfl ?_
        refine st_p (fun _ => by exact y_move (.plain rfl)) rfl ?_
        refine aops_nil ?_
        exact ⟨k + 1, ⟨by omega, fun i hi hik => (by by_cases e : i = k; (subst e; exact h2); exact hno i hi (by omega))⟩, by omega, Weak.of (by (repeat (first | exact .nil _ | refine .cons rfl (by first | exact AV.Imp.refl _ | exact AV.Imp.grow_sl | exact AV.Imp.full_sl | exact AV.Imp.own_sl | exact AV.Imp.nil_sl | exact AV.Imp.nil_full | exact AV.Imp.nil_grow | exact AV.Imp.full_grow | exact AV.Imp.own_grow | exact AV.Imp.of_eq (congrArg AV.int (by omega)) | exact AV.Imp.of_eq (by simp; try omega)) ?_)); done) (by (repeat (first | exact .nil _ | refine .cons (by first | exact .here | exact .there .here | exact .there (.there .here) | exact .there (.there (.there .here)) | exact .there (.there (.there (.there .here))) | exact .there (.there (.there (.there (.there .here)))) | exact .there (.there (.there (.there (.there (.there .here)))))) ?_)); done)⟩
    · skip
      try simp only [decide_eq_true_eq, decide_eq_false_iff_not, Bool.not_eq_true', Bool.not_eq_false', Bool.not_eq_true, Bool.not_eq_false, List.length_map, Int.ofNat_lt, Int.ofNat_le, Bool.or_eq_true, Bool.and_eq_true, Bool.or_eq_false_iff, Bool.and_eq_false_iff] at h1
      refine awp_exit ?_
      refine awp_seq ?_
      refine awp_region ?_
      refine st_p (fun _ => by exact y_assign (.plain rfl)) rfl ?_
      refine st_p (fun _ => by exact y_assign (.plain rfl)) rfl ?_
      refine aops_nil ?_
      refine awp_ret ?_
      refine ret2 (.inr rfl) rfl rfl ?_
      exact ⟨by simp only [findI, findB, find_no l t (fun i hi => hno i hi (by omega)), Option.isSome_none], rfl⟩

theorem check_c (d : Int) (l : List W) (hl : l.length ≤ 1000000) : ACalls Try.prog 15 [.int d, slW l] [] (fun v st => v = .int (check d l) ∧ st = []) := by
  refine acalls_body Try.func15 (by kernel_rfl) rfl Try.ntmps15 (Nat.le_of_ble_eq_true rfl) ?_
  rw [Try.results15]
  refine awp_seq ?_
  refine awp_region ?_
  refine st_p (fun _ => by exact y_assign (.plain rfl)) rfl ?_
  refine aops_nil ?_
  refine awp_seq ?_
  refine awp_seq ?_
  refine awp_region ?_
  refine st_p (fun _ => by exact y_move (.plain rfl)) rfl ?_
  first | refine st_p (fun _ => by exact y_neq (.plain rfl) (.plain rfl)) rfl ?_ | refine st_p (fun _ => by exact y_neBool (by rfl) (.plain rfl) (.plain rfl)) rfl ?_ | refine st_p (fun _ => by exact y_neStruct (.plain rfl) (.plain rfl) .nil) rfl ?_
  refine st_p (fun _ => by exact y_move (.plain rfl)) rfl ?_
  refine st_g rfl rfl rfl (by first | exact Says.bool _ _ | exact Says.opt _ _ _) (fun hc _ => by exact y_move (.plain rfl)) rfl ?_
  first | refine st_g rfl rfl rfl (by first | exact Says.bool _ _ | exact Says.opt _ _ _) (fun hc _ => by exact y_neq (.opt rfl hc) (.plain rfl)) rfl ?_ | refine st_g rfl rfl rfl (by first | exact Says.bool _ _ | exact Says.opt _ _ _) (fun hc _ => by exact y_neBool (by rfl) (.opt rfl hc) (.plain rfl)) rfl ?_ | refine st_g rfl rfl rfl (by first | exact Says.bool _ _ | exact Says.opt _ _ _) (fun hc _ => by exact y_neStruct (.opt rfl hc) (.plain rfl) .nil) rfl ?_
  refine st_p (fun _ => by exact y_and (.plain rfl) rfl rfl) rfl ?_
  refine aops_nil ?_
  refine awp_cond rfl (fun h1 => ?_) (fun h1 => ?_)
  · skip
    try simp only [decide_eq_true_eq, decide_eq_false_iff_not, Bool.not_eq_true', Bool.not_eq_false', Bool.not_eq_true, Bool.not_eq_false, List.length_map, Int.ofNat_lt, Int.ofNat_le, Bool.or_eq_true, Bool.and_eq_true, Bool.or_eq_false_iff, Bool.and_eq_false_iff] at h1
    refine awp_seq ?_
    refine awp_region ?_
    refine st_p (fun _ => by exact y_assign (.plain rfl)) rfl ?_
    refine aops_nil ?_
    refine awp_ret ?_
    refine ret1 (.inr rfl) rfl ?_
    exact ⟨by simp only [check, if_pos (show d ≠ 1 ∧ d ≠ 2 from h1)], rfl⟩
  · skip
    try simp only [decide_eq_true_eq, decide_eq_false_iff_not, Bool.not_eq_true', Bool.not_eq_false', Bool.not_eq_true, Bool.not_eq_false, List.length_map, Int.ofNat_lt, Int.ofNat_le, Bool.or_eq_true, Bool.and_eq_true, Bool.or_eq_false_iff, Bool.and_eq_false_iff] at h1
    refine awp_skip ?_
    refine awp_seq ?_
    refine awp_seq ?_
    refine awp_region ?_
    refine st_p (fun _ => by exact y_move (.plain rfl)) rfl ?_
    first | refine st_p (fun _ => by exact y_len (.plain rfl)) rfl ?_ | refine st_p (fun _ => by exact y_lenArr (.plain rfl)) rfl ?_
    refine st_p (fun _ => by exact y_gtr (.plain rfl) (.plain rfl)) rfl ?_
    refine aops_nil ?_
    refine awp_cond rfl (fun h2 => ?_) (fun h2 => ?_)
    · skip
      try simp only [decide_eq_true_eq, decide_eq_false_iff_not, Bool.not_eq_true', Bool.not_eq_false', Bool.not_eq_true, Bool.not_eq_false, List.length_map, Int.ofNat_lt, Int.ofNat_le, Bool.or_eq_true, Bool.and_eq_true, Bool.or_eq_false_iff, Bool.and_eq_false_iff] at h2
      refine awp_seq ?_
      refine awp_region ?_
      refine st_p (fun _ => by exact y_assign (.plain rfl)) rfl ?_
      refine aops_nil ?_
      refine awp_ret ?_
      refine ret1 (.inr rfl) rfl ?_
      exact ⟨by simp only [check, if_neg (show ¬ (d ≠ 1 ∧ d ≠ 2) by omega), if_pos (show 96 < l.length by omega)], rfl⟩
    · skip
      try simp only [decide_eq_true_eq, decide_eq_false_iff_not, Bool.not_eq_true', Bool.not_eq_false', Bool.not_eq_true, Bool.not_eq_false, List.length_map, Int.ofNat_lt, Int.ofNat_le, Bool.or_eq_true, Bool.and_eq_true, Bool.or_eq_false_iff, Bool.and_eq_false_iff] at h2
      refine awp_skip ?_
      refine awp_seq ?_
      refine awp_seq ?_
      refine awp_region ?_
      refine st_p (fun _ => by exact y_move (.plain rfl)) rfl ?_
      first | refine st_p (fun _ => by exact y_len (.plain rfl)) rfl ?_ | refine st_p (fun _ => by exact y_lenArr (.plain rfl)) rfl ?_
      refine st_p (fun _ => by exact y_move (.plain rfl)) rfl ?_
      refine aops_nil ?_
      refine awp_block ?_
      refine awp_loop (X := Nat) (fun x => [(0, .int d), (1, slW l), (16, slW l), (17, .int ((l.map encW).length : Int)), (18, .int (x : Int))]) (fun x => []) (fun x => x ≤ l.length ∧ chk d none l = chk d (prev l x) (l.drop x)) (fun x => l.length - x) 0 ⟨Nat.zero_le _, rfl⟩ ?_ ?_
      · exact Weak.of (by (repeat (first | exact .nil _ | refine .cons rfl (by first | exact AV.Imp.refl _ | exact AV.Imp.grow_sl | exact AV.Imp.full_sl | exact AV.Imp.own_sl | exact AV.Imp.nil_sl | exact AV.Imp.nil_full | exact AV.Imp.nil_grow | exact AV.Imp.full_grow | exact AV.Imp.own_grow | exact AV.Imp.of_eq (congrArg AV.int (by omega)) | exact AV.Imp.of_eq (by simp; try omega)) ?_)); done) (by (repeat (first | exact .nil _ | refine .cons (by first | exact .here | exact .there .here | exact .there (.there .here) | exact .there (.there (.there .here)) | exact .there (.there (.there (.there .here))) | exact .there (.there (.there (.there (.there .here)))) | exact .there (.there (.there (.there (.there (.there .here)))))) ?_)); done)
      · rintro k ⟨hk, hc0⟩
        refine awp_seq ?_
        refine awp_region ?_
        refine st_p (fun _ => by exact y_lss (.plain rfl) (.plain rfl)) rfl ?_
        refine aops_nil ?_
        refine awp_seq ?_
        refine awp_cond rfl (fun h3 => ?_) (fun h3 => ?_)
        · skip
          try simp only [decide_eq_true_eq, decide_eq_false_iff_not, Bool.not_eq_true', Bool.not_eq_false', Bool.not_eq_true, Bool.not_eq_false, List.length_map, Int.ofNat_lt, Int.ofNat_le, Bool.or_eq_true, Bool.and_eq_true, Bool.or_eq_false_iff, Bool.and_eq_false_iff] at h3
          refine awp_skip ?_
          refine awp_seq ?_
          refine awp_block ?_
          refine awp_seq ?_
          refine awp_region ?_
          refine st_p (fun _ => by exact y_move (.plain rfl)) rfl ?_
          first | refine st_p (fun _ => by exact y_indexMap (.plain rfl) (.plain rfl) rfl (by refine ⟨?_, ?_⟩; (first | omega | (simp; omega) | (simp at hc; omega) | (simp at hc ⊢; omega) | (simp; done)); rfl)) rfl ?_ | refine st_p (fun _ => by exact y_indexT (.plain rfl) (.plain rfl) (by first | omega | (simp; omega) | (simp at hc; omega) | (simp at hc ⊢; omega) | (simp; done)) (by first | omega | (simp; omega) | (simp at hc; omega) | (simp at hc ⊢; omega) | (simp; done))) rfl ?_ | refine st_p (fun _ => by exact y_index (.plain rfl) (.plain rfl) (by omega) rfl) rfl ?_ | refine st_p (fun _ => by exact y_indexArr (.plain rfl) (.plain rfl) rfl (by first | omega | (simp; omega) | (simp at hc; omega) | (simp at hc ⊢; omega) | (simp; done))) rfl ?_ | refine st_p (fun _ => by exact y_indexVar (.plain rfl) (.plain rfl) rfl (by first | omega | (simp; omega) | (simp at hc; omega) | (simp at hc ⊢; omega) | (simp; done))) rfl ?_
          first | refine st_p (fun _ => by exact y_loadE (.plain rfl) rfl) rfl ?_ | refine st_p (fun _ => by exact y_loadEW (.plain rfl) (by rfl)) rfl ?_ | refine st_p (fun _ => by exact y_loadEAgg (.plain rfl) (Nat.le_of_ble_eq_true rfl)) rfl ?_ | refine st_p (fun _ => by exact y_load (.plain rfl) (by first | exact .here | exact .there .here | exact .there (.there .here) | exact .there (.there (.there .here)) | exact .there (.there (.there (.there .here))) | exact .there (.there (.there (.there (.there .here)))) | exact .there (.there (.there (.there (.there (.there .here)))))) rfl) rfl ?_ | refine st_p (fun _ => by exact y_loadW (.plain rfl) (by first | exact .here | exact .there .here | exact .there (.there .here) | exact .there (.there (.there .here)) | exact .there (.there (.there (.there .here))) | exact .there (.there (.there (.there (.there .here)))) | exact .there (.there (.there (.there (.there (.there .here)))))) (by rfl)) rfl ?_ | refine st_p (fun _ => by exact y_loadAgg (.plain rfl) (by first | exact .here | exact .there .here | exact .there (.there .here) | exact .there (.there (.there .here)) | exact .there (.there (.there (.there .here))) | exact .there (.there (.there (.there (.there .here)))) | exact .there (.there (.there (.there (.there (.there .here)))))) (Nat.le_of_ble_eq_true rfl)) rfl ?_
          refine st_n (fun _ => by exact y_alloc) rfl fun n1 => ?_
          refine st_p (fun _ => by exact y_assign (.plain rfl)) rfl ?_
          first | refine st_s (fun _ => by exact y_storeW (by rfl) rfl (.plain rfl) (.plain rfl) (by first | exact .here | exact .there .here | exact .there (.there .here) | exact .there (.there (.there .here)) | exact .there (.there (.there (.there .here))) | exact .there (.there (.there (.there (.there .here)))) | exact .there (.there (.there (.there (.there (.there .here)))))) (by rfl)) ?_ | refine st_s (fun _ => by exact y_store (by rfl) rfl (.plain rfl) (.plain rfl) (by first | exact .here | exact .there .here | exact .there (.there .here) | exact .there (.there (.there .here)) | exact .there (.there (.there (.there .here))) | exact .there (.there (.there (.there (.there .here)))) | exact .there (.there (.there (.there (.there (.there .here)))))) (Nat.le_of_ble_eq_true rfl)) ?_
          refine aops_nil ?_
          refine awp_seq ?_
          refine awp_seq ?_
          refine awp_region ?_
          first | refine st_p (fun _ => by exact y_loadE (.plain rfl) rfl) rfl ?_ | refine st_p (fun _ => by exact y_loadEW (.plain rfl) (by rfl)) rfl ?_ | refine st_p (fun _ => by exact y_loadEAgg (.plain rfl) (Nat.le_of_ble_eq_true rfl)) rfl ?_ | refine st_p (fun _ => by exact y_load (.plain rfl) (by first | exact .here | exact .there .here | exact .there (.there .here) | exact .there (.there (.there .here)) | exact .there (.there (.there (.there .here))) | exact .there (.there (.there (.there (.there .here)))) | exact .there (.there (.there (.there (.there (.there .here)))))) rfl) rfl ?_ | refine st_p (fun _ => by exact y_loadW (.plain rfl) (by first | exact .here | exact .there .here | exact .there (.there .here) | exact .there (.there (.there .here)) | exact .there (.there (.there (.there .here))) | exact .there (.there (.there (.there (.there .here)))) | exact .there (.there (.there (.there (.there (.there .here)))))) (by rfl)) rfl ?_ | refine st_p (fun _ => by exact y_loadAgg (.plain rfl) (by first | exact .here | exact .there .here | exact .there (.there .here) | exact .there (.there (.there .here)) | exact .there (.there (.there (.there .here))) | exact .there (.there (.there (.there (.there .here)))) | exact .there (.there (.there (.there (.there (.there .here)))))) (Nat.le_of_ble_eq_true rfl)) rfl ?_
          refine aops_call (blt_lt rfl) (.plain rfl) (.cons (.plain rfl) .nil) (ACalls.here (valid_c _) ?_)
          refine st_p (fun _ => by exact y_not (.plain rfl)) rfl ?_
          refine aops_nil ?_
          refine awp_cond rfl (fun h4 => ?_) (fun h4 => ?_)
          · skip
            try simp only [decide_eq_true_eq, decide_eq_false_iff_not, Bool.not_eq_true', Bool.not_eq_false', Bool.not_eq_true, Bool.not_eq_false, List.length_map, Int.ofNat_lt, Int.ofNat_le, Bool.or_eq_true, Bool.and_eq_true, Bool.or_eq_false_iff, Bool.and_eq_false_iff] at h4
            refine awp_seq ?_
            refine awp_region ?_
            refine st_p (fun _ => by exact y_assign (.plain rfl)) rfl ?_
            refine aops_nil ?_
            refine awp_ret ?_
            refine ret1 (.inr rfl) rfl ?_
            exact ⟨by simp only [check, if_neg (show ¬ (d ≠ 1 ∧ d ≠ 2) by omega), if_neg (show ¬ 96 < l.length by omega), hc0, chk_bad d l k h3 h4], rfl⟩
          · skip
            try simp only [decide_eq_true_eq, decide_eq_false_iff_not, Bool.not_eq_true', Bool.not_eq_false', Bool.not_eq_true, Bool.not_eq_false, List.length_map, Int.ofNat_lt, Int.ofNat_le, Bool.or_eq_true, Bool.and_eq_true, Bool.or_eq_false_iff, Bool.and_eq_false_iff] at h4
            refine awp_skip ?_
            refine awp_seq ?_
            refine awp_any0 (ks := [.free, .free, .free, .free, .free, .free, .free, .free, .free, .free, .free, .free, .free, .free, .free, .free, .free]) (by kernel_rfl) (fun K => ?_) ?_
            · skip
              refine dr_p (fun _ => by exact y_move (.plain rfl)) rfl ?_
              first | refine dr_p (fun _ => by exact y_eql (.plain rfl) (.plain rfl)) rfl ?_ | refine dr_p (fun _ => by exact y_eqBool (by rfl) (.plain rfl) (.plain rfl)) rfl ?_ | refine dr_p (fun _ => by exact y_eqStruct (.plain rfl) (.plain rfl) .nil) rfl ?_
              refine dr_p (fun _ => by exact y_move (.plain rfl)) rfl ?_
              refine dr_g rfl rfl rfl (by first | exact Says.bool _ _ | exact Says.opt _ _ _) (fun hc _ => by exact y_move (.plain rfl)) rfl ?_
              refine dr_g rfl rfl rfl (by first | exact Says.bool _ _ | exact Says.opt _ _ _) (fun hc _ => by exact y_gtr (.opt rfl hc) (.plain rfl)) rfl ?_
              refine dr_p (fun _ => by exact y_and (.plain rfl) rfl rfl) rfl ?_
              refine dr_p (fun _ => by exact y_move (.plain rfl)) rfl ?_
              first | refine dr_g rfl rfl rfl (by first | exact Says.bool _ _ | exact Says.opt _ _ _) (fun hc _ => by exact y_fieldPtr (.plain rfl)) rfl ?_ | refine dr_g rfl rfl rfl (by first | exact Says.bool _ _ | exact Says.opt _ _ _) (fun hc _ => by exact y_fieldE (.plain rfl) (Nat.le_of_ble_eq_true rfl)) rfl ?_
              first | refine dr_g rfl rfl rfl (by first | exact Says.bool _ _ | exact Says.opt _ _ _) (fun hc _ => by exact y_loadE (.opt rfl hc) rfl) rfl ?_ | refine dr_g rfl rfl rfl (by first | exact Says.bool _ _ | exact Says.opt _ _ _) (fun hc _ => by exact y_loadEW (.opt rfl hc) (by rfl)) rfl ?_ | refine dr_g rfl rfl rfl (by first | exact Says.bool _ _ | exact Says.opt _ _ _) (fun hc _ => by exact y_loadEAgg (.opt rfl hc) (Nat.le_of_ble_eq_true rfl)) rfl ?_ | refine dr_g rfl rfl rfl (by first | exact Says.bool _ _ | exact Says.opt _ _ _) (fun hc _ => by exact y_load (.opt rfl hc) (by first | exact .here | exact .there .here | exact .there (.there .here) | exact .there (.there (.there .here)) | exact .there (.there (.there (.there .here))) | exact .there (.there (.there (.there (.there .here)))) | exact .there (.there (.there (.there (.there (.there .here)))))) rfl) rfl ?_ | refine dr_g rfl rfl rfl (by first | exact Says.bool _ _ | exact Says.opt _ _ _) (fun hc _ => by exact y_loadW (.opt rfl hc) (by first | exact .here | exact .there .here | exact .there (.there .here) | exact .there (.there (.there .here)) | exact .there (.there (.there (.there .here))) | exact .there (.there (.there (.there (.there .here)))) | exact .there (.there (.there (.there (.there (.there .here)))))) (by rfl)) rfl ?_ | refine dr_g rfl rfl rfl (by first | exact Says.bool _ _ | exact Says.opt _ _ _) (fun hc _ => by exact y_loadAgg (.opt rfl hc) (by first | exact .here | exact .there .here | exact .there (.there .here) | exact .there (.there (.there .here)) | exact .there (.there (.there (.there .here))) | exact .there (.there (.there (.there (.there .here)))) | exact .there (.there (.there (.there (.there (.there .here)))))) (Nat.le_of_ble_eq_true rfl)) rfl ?_
              refine dr_g rfl rfl rfl (by first | exact Says.bool _ _ | exact Says.opt _ _ _) (fun hc _ => by exact y_move (.plain rfl)) rfl ?_
              refine dr_g rfl rfl rfl (by first | exact Says.bool _ _ | exact Says.opt _ _ _) (fun hc _ => by exact y_move (.plain rfl)) rfl ?_
              refine dr_g rfl rfl rfl (by first | exact Says.bool _ _ | exact Says.opt _ _ _) (fun hc _ => by exact y_sub (.opt rfl hc) (.plain rfl) (by first | omega | (simp; omega) | (simp at hc; omega) | (simp at hc ⊢; omega) | (simp; done))) rfl ?_
              first | refine dr_g rfl rfl rfl (by first | exact Says.bool _ _ | exact Says.opt _ _ _) (fun hc _ => by exact y_indexMap (.opt rfl hc) (.opt rfl hc) rfl (by refine ⟨?_, ?_⟩; (first | omega | (simp; omega) | (simp at hc; omega) | (simp at hc ⊢; omega) | (simp; done)); rfl)) rfl ?_ | refine dr_g rfl rfl rfl (by first | exact Says.bool _ _ | exact Says.opt _ _ _) (fun hc _ => by exact y_indexT (.opt rfl hc) (.opt rfl hc) (by first | omega | (simp; omega) | (simp at hc; omega) | (simp at hc ⊢; omega) | (simp; done)) (by first | omega | (simp; omega) | (simp at hc; omega) | (simp at hc ⊢; omega) | (simp; done))) rfl ?_ | refine dr_g rfl rfl rfl (by first | exact Says.bool _ _ | exact Says.opt _ _ _) (fun hc _ => by exact y_index (.opt rfl hc) (.opt rfl hc) (by omega) rfl) rfl ?_ | refine dr_g rfl rfl rfl (by first | exact Says.bool _ _ | exact Says.opt _ _ _) (fun hc _ => by exact y_indexArr (.opt rfl hc) (.opt rfl hc) rfl (by first | omega | (simp; omega) | (simp at hc; omega) | (simp at hc ⊢; omega) | (simp; done))) rfl ?_ | refine dr_g rfl rfl rfl (by first | exact Says.bool _ _ | exact Says.opt _ _ _) (fun hc _ => by exact y_indexVar (.opt rfl hc) (.opt rfl hc) rfl (by first | omega | (simp; omega) | (simp at hc; omega) | (simp at hc ⊢; omega) | (simp; done))) rfl ?_
              first | refine dr_g rfl rfl rfl (by first | exact Says.bool _ _ | exact Says.opt _ _ _) (fun hc _ => by exact y_fieldPtr (.opt rfl hc)) rfl ?_ | refine dr_g rfl rfl rfl (by first | exact Says.bool _ _ | exact Says.opt _ _ _) (fun hc _ => by exact y_fieldE (.opt rfl hc) (Nat.le_of_ble_eq_true rfl)) rfl ?_
              first | refine dr_g rfl rfl rfl (by first | exact Says.bool _ _ | exact Says.opt _ _ _) (fun hc _ => by exact y_loadE (.opt rfl hc) rfl) rfl ?_ | refine dr_g rfl rfl rfl (by first | exact Says.bool _ _ | exact Says.opt _ _ _) (fun hc _ => by exact y_loadEW (.opt rfl hc) (by rfl)) rfl ?_ | refine dr_g rfl rfl rfl (by first | exact Says.bool _ _ | exact Says.opt _ _ _) (fun hc _ => by exact y_loadEAgg (.opt rfl hc) (Nat.le_of_ble_eq_true rfl)) rfl ?_ | refine dr_g rfl rfl rfl (by first | exact Says.bool _ _ | exact Says.opt _ _ _) (fun hc _ => by exact y_load (.opt rfl hc) (by first | exact .here | exact .there .here | exact .there (.there .here) | exact .there (.there (.there .here)) | exact .there (.there (.there (.there .here))) | exact .there (.there (.there (.there (.there .here)))) | exact .there (.there (.there (.there (.there (.there .here)))))) rfl) rfl ?_ | refine dr_g rfl rfl rfl (by first | exact Says.bool _ _ | exact Says.opt _ _ _) (fun hc _ => by exact y_loadW (.opt rfl hc) (by first | exact .here | exact .there .here | exact .there (.there .here) | exact .there (.there (.there .here)) | exact .there (.there (.there (.there .here))) | exact .there (.there (.there (.there (.there .here)))) | exact .there (.there (.there (.there (.there (.there .here)))))) (by rfl)) rfl ?_ | refine dr_g rfl rfl rfl (by first | exact Says.bool _ _ | exact Says.opt _ _ _) (fun hc _ => by exact y_loadAgg (.opt rfl hc) (by first | exact .here | exact .there .here | exact .there (.there .here) | exact .there (.there (.there .here)) | exact .there (.there (.there (.there .here))) | exact .there (.there (.there (.there (.there .here)))) | exact .there (.there (.there (.there (.there (.there .here)))))) (Nat.le_of_ble_eq_true rfl)) rfl ?_
              refine dr_g rfl rfl rfl (by first | exact Says.bool _ _ | exact Says.opt _ _ _) (fun hc _ => by exact y_gtr (.opt rfl hc) (.opt rfl hc)) rfl ?_
              refine dr_p (fun _ => by exact y_and (.plain rfl) rfl rfl) rfl ?_
              refine dr_nil ⟨rfl, ?_⟩
              refine awp_cond rfl (fun h5 => ?_) (fun h5 => ?_)
              · skip
                try simp only [decide_eq_true_eq, decide_eq_false_iff_not, Bool.not_eq_true', Bool.not_eq_false', Bool.not_eq_true, Bool.not_eq_false, List.length_map, Int.ofNat_lt, Int.ofNat_le, Bool.or_eq_true, Bool.and_eq_true, Bool.or_eq_false_iff, Bool.and_eq_false_iff] at h5
                refine awp_seq ?_
                refine awp_region ?_
                refine st_p (fun _ => by exact y_assign (.plain rfl)) rfl ?_
                refine aops_nil ?_
                refine awp_ret ?_
                refine ret1 (.inr rfl) rfl ?_
                exact ⟨by simp only [check, if_neg (show ¬ (d ≠ 1 ∧ d ≠ 2) by omega), if_neg (show ¬ 96 < l.length by omega), hc0, chk_order d l k h3 h4 (by simp only [toNat_pred, Int.natCast_pos] at h5; omega)], rfl⟩
              · skip
                try simp only [decide_eq_true_eq, decide_eq_false_iff_not, Bool.not_eq_true', Bool.not_eq_false', Bool.not_eq_true, Bool.not_eq_false, List.length_map, Int.ofNat_lt, Int.ofNat_le, Bool.or_eq_true, Bool.and_eq_true, Bool.or_eq_false_iff, Bool.and_eq_false_iff] at h5
                refine awp_skip ?_
                refine awp_region ?_
                refine st_p (fun _ => by exact y_add (.plain rfl) (.plain rfl) (by first | omega | (simp; omega) | (simp at hc; omega) | (simp at hc ⊢; omega) | (simp; done))) rfl ?_
                refine st_p (fun _ => by exact y_move (.plain rfl)) rfl ?_
                refine aops_nil ?_
                exact ⟨k + 1, ⟨by omega, hc0.trans (chk_step d l k h3 h4 (by simp only [toNat_pred, Int.natCast_pos] at h5; omega))⟩, by omega, Weak.of (by (repeat (first | exact .nil _ | refine .cons rfl (by first | exact AV.Imp.refl _ | exact AV.Imp.grow_sl | exact AV.Imp.full_sl | exact AV.Imp.own_sl | exact AV.Imp.nil_sl | exact AV.Imp.nil_full | exact AV.Imp.nil_grow | exact AV.Imp.full_grow | exact AV.Imp.own_grow | exact AV.Imp.of_eq (congrArg AV.int (by omega)) | exact AV.Imp.of_eq (by simp; try omega)) ?_)); done) (by (repeat (first | exact .nil _ | refine .cons (by first | exact .here | exact .there .here | exact .there (.there .here) | exact .there (.there (.there .here)) | exact .there (.there (.there (.there .here))) | exact .there (.there (.there (.there (.there .here)))) | exact .there (.there (.there (.there (.there (.there .here)))))) ?_)); done)⟩
            · kernel_rfl
        · skip
          try simp only [decide_eq_true_eq, decide_eq_false_iff_not, Bool.not_eq_true', Bool.not_eq_false', Bool.not_eq_true, Bool.not_eq_false, List.length_map, Int.ofNat_lt, Int.ofNat_le, Bool.or_eq_true, Bool.and_eq_true, Bool.or_eq_false_iff, Bool.and_eq_false_iff] at h3
          refine awp_exit ?_
          refine awp_seq ?_
          refine awp_region ?_
          refine st_p (fun _ => by exact y_assign (.plain rfl)) rfl ?_
          refine aops_nil ?_
          refine awp_ret ?_
          refine ret1 (.inr rfl) rfl ?_
          exact ⟨by simp only [check, if_neg (show ¬ (d ≠ 1 ∧ d ≠ 2) by omega), if_neg (show ¬ 96 < l.length by omega), hc0, chk_end d l k (by omega)], rfl⟩

theorem checkR_c (d : Int) (l : List W) (hl : l.length ≤ 1000000) : ACalls Try.prog 16 [.int d, slW l] [] (fun v st => v = .int (check d l) ∧ st = []) := by
  refine acalls_body Try.func16 (by kernel_rfl) rfl Try.ntmps16 (Nat.le_of_ble_eq_true rfl) ?_
  rw [Try.results16]
  refine awp_seq ?_
  refine awp_region ?_
  refine st_p (fun _ => by exact y_assign (.plain rfl)) rfl ?_
  refine aops_nil ?_
  refine awp_seq ?_
  refine awp_seq ?_
  refine awp_region ?_
  refine st_p (fun _ => by exact y_move (.plain rfl)) rfl ?_
  first | refine st_p (fun _ => by exact y_neq (.plain rfl) (.plain rfl)) rfl ?_ | refine st_p (fun _ => by exact y_neBool (by rfl) (.plain rfl) (.plain rfl)) rfl ?_ | refine st_p (fun _ => by exact y_neStruct (.plain rfl) (.plain rfl) .nil) rfl ?_
  refine st_p (fun _ => by exact y_move (.plain rfl)) rfl ?_
  refine st_g rfl rfl rfl (by first | exact Says.bool _ _ | exact Says.opt _ _ _) (fun hc _ => by exact y_move (.plain rfl)) rfl ?_
  first | refine st_g rfl rfl rfl (by first | exact Says.bool _ _ | exact Says.opt _ _ _) (fun hc _ => by exact y_neq (.opt rfl hc) (.plain rfl)) rfl ?_ | refine st_g rfl rfl rfl (by first | exact Says.bool _ _ | exact Says.opt _ _ _) (fun hc _ => by exact y_neBool (by rfl) (.opt rfl hc) (.plain rfl)) rfl ?_ | refine st_g rfl rfl rfl (by first | exact Says.bool _ _ | exact Says.opt _ _ _) (fun hc _ => by exact y_neStruct (.opt rfl hc) (.plain rfl) .nil) rfl ?_
  refine st_p (fun _ => by exact y_and (.plain rfl) rfl rfl) rfl ?_
  refine aops_nil ?_
  refine awp_cond rfl (fun h1 => ?_) (fun h1 => ?_)
  · skip
    try simp only [decide_eq_true_eq, decide_eq_false_iff_not, Bool.not_eq_true', Bool.not_eq_false', Bool.not_eq_true, Bool.not_eq_false, List.length_map, Int.ofNat_lt, Int.ofNat_le, Bool.or_eq_true, Bool.and_eq_true, Bool.or_eq_false_iff, Bool.and_eq_false_iff] at h1
    refine awp_seq ?_
    refine awp_region ?_
    refine st_p (fun _ => by exact y_assign (.plain rfl)) rfl ?_
    refine aops_nil ?_
    refine awp_ret ?_
    refine ret1 (.inr rfl) rfl ?_
    exact ⟨by simp only [check, if_pos (show d ≠ 1 ∧ d ≠ 2 from h1)], rfl⟩
  · skip
    try simp only [decide_eq_true_eq, decide_eq_false_iff_not, Bool.not_eq_true', Bool.not_eq_false', Bool.not_eq_true, Bool.not_eq_false, List.length_map, Int.ofNat_lt, Int.ofNat_le, Bool.or_eq_true, Bool.and_eq_true, Bool.or_eq_false_iff, Bool.and_eq_false_iff] at h1
    refine awp_skip ?_
    refine awp_seq ?_
    refine awp_seq ?_
    refine awp_region ?_
    refine st_p (fun _ => by exact y_move (.plain rfl)) rfl ?_
    first | refine st_p (fun _ => by exact y_len (.plain rfl)) rfl ?_ | refine st_p (fun _ => by exact y_lenArr (.plain rfl)) rfl ?_
    refine st_p (fun _ => by exact y_gtr (.plain rfl) (.plain rfl)) rfl ?_
    refine aops_nil ?_
    refine awp_cond rfl (fun h2 => ?_) (fun h2 => ?_)
    · skip
      try simp only [decide_eq_true_eq, decide_eq_false_iff_not, Bool.not_eq_true', Bool.not_eq_false', Bool.not_eq_true, Bool.not_eq_false, List.length_map, Int.ofNat_lt, Int.ofNat_le, Bool.or_eq_true, Bool.and_eq_true, Bool.or_eq_false_iff, Bool.and_eq_false_iff] at h2
      refine awp_seq ?_
      refine awp_region ?_
      refine st_p (fun _ => by exact y_assign (.plain rfl)) rfl ?_
      refine aops_nil ?_
      refine awp_ret ?_
      refine ret1 (.inr rfl) rfl ?_
      exact ⟨by simp only [check, if_neg (show ¬ (d ≠ 1 ∧ d ≠ 2) by omega), if_pos (show 96 < l.length by omega)], rfl⟩
    · skip
      try simp only [decide_eq_true_eq, decide_eq_false_iff_not, Bool.not_eq_true', Bool.not_eq_false', Bool.not_eq_true, Bool.not_eq_false, List.length_map, Int.ofNat_lt, Int.ofNat_le, Bool.or_eq_true, Bool.and_eq_true, Bool.or_eq_false_iff, Bool.and_eq_false_iff] at h2
      refine awp_skip ?_
      refine awp_seq ?_
      refine awp_seq ?_
      refine awp_region ?_
      refine st_p (fun _ => by exact y_assign (.plain rfl)) rfl ?_
      refine aops_nil ?_
      refine awp_block ?_
      refine awp_loop (X := Nat) (fun x => [(0, .int d), (1, slW l), (5, .int (x : Int))]) (fun x => []) (fun x => x ≤ l.length ∧ chk d none l = chk d (prev l x) (l.drop x)) (fun x => l.length - x) 0 ⟨Nat.zero_le _, rfl⟩ ?_ ?_
      · exact Weak.of (by (repeat (first | exact .nil _ | refine .cons rfl (by first | exact AV.Imp.refl _ | exact AV.Imp.grow_sl | exact AV.Imp.full_sl | exact AV.Imp.own_sl | exact AV.Imp.nil_sl | exact AV.Imp.nil_full | exact AV.Imp.nil_grow | exact AV.Imp.full_grow | exact AV.Imp.own_grow | exact AV.Imp.of_eq (congrArg AV.int (by omega)) | exact AV.Imp.of_eq (by simp; try omega)) ?_)); done) (by (repeat (first | exact .nil _ | refine .cons (by first | exact .here | exact .there .here | exact .there (.there .here) | exact .there (.there (.there .here)) | exact .there (.there (.there (.there .here))) | exact .there (.there (.there (.there (.there .here)))) | exact .there (.there (.there (.there (.there (.there .here)))))) ?_)); done)
      · rintro k ⟨hk, hc0⟩
        refine awp_seq ?_
        refine awp_seq ?_
        refine awp_region ?_
        refine st_p (fun _ => by exact y_move (.plain rfl)) rfl ?_
        refine st_p (fun _ => by exact y_move (.plain rfl)) rfl ?_
        first | refine st_p (fun _ => by exact y_len (.plain rfl)) rfl ?_ | refine st_p (fun _ => by exact y_lenArr (.plain rfl)) rfl ?_
        refine st_p (fun _ => by exact y_lss (.plain rfl) (.plain rfl)) rfl ?_
        refine aops_nil ?_
        refine awp_cond rfl (fun h3 => ?_) (fun h3 => ?_)
        · skip
          try simp only [decide_eq_true_eq, decide_eq_false_iff_not, Bool.not_eq_true', Bool.not_eq_false', Bool.not_eq_true, Bool.not_eq_false, List.length_map, Int.ofNat_lt, Int.ofNat_le, Bool.or_eq_true, Bool.and_eq_true, Bool.or_eq_false_iff, Bool.and_eq_false_iff] at h3
          refine awp_skip ?_
          refine awp_seq ?_
          refine awp_block ?_
          refine awp_seq ?_
          refine awp_seq ?_
          refine awp_region ?_
          refine st_p (fun _ => by exact y_move (.plain rfl)) rfl ?_
          refine st_p (fun _ => by exact y_move (.plain rfl)) rfl ?_
          first | refine st_p (fun _ => by exact y_indexMap (.plain rfl) (.plain rfl) rfl (by refine ⟨?_, ?_⟩; (first | omega | (simp; omega) | (simp at hc; omega) | (simp at hc ⊢; omega) | (simp; done)); rfl)) rfl ?_ | refine st_p (fun _ => by exact y_indexT (.plain rfl) (.plain rfl) (by first | omega | (simp; omega) | (simp at hc; omega) | (simp at hc ⊢; omega) | (simp; done)) (by first | omega | (simp; omega) | (simp at hc; omega) | (simp at hc ⊢; omega) | (simp; done))) rfl ?_ | refine st_p (fun _ => by exact y_index (.plain rfl) (.plain rfl) (by omega) rfl) rfl ?_ | refine st_p (fun _ => by exact y_indexArr (.plain rfl) (.plain rfl) rfl (by first | omega | (simp; omega) | (simp at hc; omega) | (simp at hc ⊢; omega) | (simp; done))) rfl ?_ | refine st_p (fun _ => by exact y_indexVar (.plain rfl) (.plain rfl) rfl (by first | omega | (simp; omega) | (simp at hc; omega) | (simp at hc ⊢; omega) | (simp; done))) rfl ?_
          first | refine st_p (fun _ => by exact y_loadE (.plain rfl) rfl) rfl ?_ | refine st_p (fun _ => by exact y_loadEW (.plain rfl) (by rfl)) rfl ?_ | refine st_p (fun _ => by exact y_loadEAgg (.plain rfl) (Nat.le_of_ble_eq_true rfl)) rfl ?_ | refine st_p (fun _ => by exact y_load (.plain rfl) (by first | exact .here | exact .there .here | exact .there (.there .here) | exact .there (.there (.there .here)) | exact .there (.there (.there (.there .here))) | exact .there (.there (.there (.there (.there .here)))) | exact .there (.there (.there (.there (.there (.there .here)))))) rfl) rfl ?_ | refine st_p (fun _ => by exact y_loadW (.plain rfl) (by first | exact .here | exact .there .here | exact .there (.there .here) | exact .there (.there (.there .here)) | exact .there (.there (.there (.there .here))) | exact .there (.there (.there (.there (.there .here)))) | exact .there (.there (.there (.there (.there (.there .here)))))) (by rfl)) rfl ?_ | refine st_p (fun _ => by exact y_loadAgg (.plain rfl) (by first | exact .here | exact .there .here | exact .there (.there .here) | exact .there (.there (.there .here)) | exact .there (.there (.there (.there .here))) | exact .there (.there (.there (.there (.there .here)))) | exact .there (.there (.there (.there (.there (.there .here)))))) (Nat.le_of_ble_eq_true rfl)) rfl ?_
          refine aops_call (blt_lt rfl) (.plain rfl) (.cons (.plain rfl) .nil) (ACalls.here (validR_c _) ?_)
          refine st_p (fun _ => by exact y_not (.plain rfl)) rfl ?_
          refine aops_nil ?_
          refine awp_cond rfl (fun h4 => ?_) (fun h4 => ?_)
          · skip
            try simp only [decide_eq_true_eq, decide_eq_false_iff_not, Bool.not_eq_true', Bool.not_eq_false', Bool.not_eq_true, Bool.not_eq_false, List.length_map, Int.ofNat_lt, Int.ofNat_le, Bool.or_eq_true, Bool.and_eq_true, Bool.or_eq_false_iff, Bool.and_eq_false_iff] at h4
            refine awp_seq ?_
            refine awp_region ?_
            refine st_p (fun _ => by exact y_assign (.plain rfl)) rfl ?_
            refine aops_nil ?_
            refine awp_ret ?_
            refine ret1 (.inr rfl) rfl ?_
            exact ⟨by simp only [check, if_neg (show ¬ (d ≠ 1 ∧ d ≠ 2) by omega), if_neg (show ¬ 96 < l.length by omega), hc0, chk_bad d l k h3 h4], rfl⟩
          · skip
            try simp only [decide_eq_true_eq, decide_eq_false_iff_not, Bool.not_eq_true', Bool.not_eq_false', Bool.not_eq_true, Bool.not_eq_false, List.length_map, Int.ofNat_lt, Int.ofNat_le, Bool.or_eq_true, Bool.and_eq_true, Bool.or_eq_false_iff, Bool.and_eq_false_iff] at h4
            refine awp_skip ?_
            refine awp_seq ?_
            refine awp_any0 (ks := [.free, .free, .free, .free, .free, .free, .free, .free, .free, .free, .free, .free, .free, .free, .free, .free, .free, .free, .free, .free]) (by kernel_rfl) (fun K => ?_) ?_
            · skip
              refine dr_p (fun _ => by exact y_move (.plain rfl)) rfl ?_
              first | refine dr_p (fun _ => by exact y_eql (.plain rfl) (.plain rfl)) rfl ?_ | refine dr_p (fun _ => by exact y_eqBool (by rfl) (.plain rfl) (.plain rfl)) rfl ?_ | refine dr_p (fun _ => by exact y_eqStruct (.plain rfl) (.plain rfl) .nil) rfl ?_
              refine dr_p (fun _ => by exact y_move (.plain rfl)) rfl ?_
              refine dr_g rfl rfl rfl (by first | exact Says.bool _ _ | exact Says.opt _ _ _) (fun hc _ => by exact y_move (.plain rfl)) rfl ?_
              refine dr_g rfl rfl rfl (by first | exact Says.bool _ _ | exact Says.opt _ _ _) (fun hc _ => by exact y_gtr (.opt rfl hc) (.plain rfl)) rfl ?_
              refine dr_p (fun _ => by exact y_and (.plain rfl) rfl rfl) rfl ?_
              refine dr_p (fun _ => by exact y_move (.plain rfl)) rfl ?_
              refine dr_g rfl rfl rfl (by first | exact Says.bool _ _ | exact Says.opt _ _ _) (fun hc _ => by exact y_move (.plain rfl)) rfl ?_
              refine dr_g rfl rfl rfl (by first | exact Says.bool _ _ | exact Says.opt _ _ _) (fun hc _ => by exact y_move (.plain rfl)) rfl ?_
              first | refine dr_g rfl rfl rfl (by first | exact Says.bool _ _ | exact Says.opt _ _ _) (fun hc _ => by exact y_indexMap (.opt rfl hc) (.opt rfl hc) rfl (by refine ⟨?_, ?_⟩; (first | omega | (simp; omega) | (simp at hc; omega) | (simp at hc ⊢; omega) | (simp; done)); rfl)) rfl ?_ | refine dr_g rfl rfl rfl (by first | exact Says.bool _ _ | exact Says.opt _ _ _) (fun hc _ => by exact y_indexT (.opt rfl hc) (.opt rfl hc) (by first | omega | (simp; omega) | (simp at hc; omega) | (simp at hc ⊢; omega) | (simp; done)) (by first | omega | (simp; omega) | (simp at hc; omega) | (simp at hc ⊢; omega) | (simp; done))) rfl ?_ | refine dr_g rfl rfl rfl (by first | exact Says.bool _ _ | exact Says.opt _ _ _) (fun hc _ => by exact y_index (.opt rfl hc) (.opt rfl hc) (by omega) rfl) rfl ?_ | refine dr_g rfl rfl rfl (by first | exact Says.bool _ _ | exact Says.opt _ _ _) (fun hc _ => by exact y_indexArr (.opt rfl hc) (.opt rfl hc) rfl (by first | omega | (simp; omega) | (simp at hc; omega) | (simp at hc ⊢; omega) | (simp; done))) rfl ?_ | refine dr_g rfl rfl rfl (by first | exact Says.bool _ _ | exact Says.opt _ _ _) (fun hc _ => by exact y_indexVar (.opt rfl hc) (.opt rfl hc) rfl (by first | omega | (simp; omega) | (simp at hc; omega) | (simp at hc ⊢; omega) | (simp; done))) rfl ?_
              first | refine dr_g rfl rfl rfl (by first | exact Says.bool _ _ | exact Says.opt _ _ _) (fun hc _ => by exact y_fieldPtr (.opt rfl hc)) rfl ?_ | refine dr_g rfl rfl rfl (by first | exact Says.bool _ _ | exact Says.opt _ _ _) (fun hc _ => by exact y_fieldE (.opt rfl hc) (Nat.le_of_ble_eq_true rfl)) rfl ?_
              first | refine dr_g rfl rfl rfl (by first | exact Says.bool _ _ | exact Says.opt _ _ _) (fun hc _ => by exact y_loadE (.opt rfl hc) rfl) rfl ?_ | refine dr_g rfl rfl rfl (by first | exact Says.bool _ _ | exact Says.opt _ _ _) (fun hc _ => by exact y_loadEW (.opt rfl hc) (by rfl)) rfl ?_ | refine dr_g rfl rfl rfl (by first | exact Says.bool _ _ | exact Says.opt _ _ _) (fun hc _ => by exact y_loadEAgg (.opt rfl hc) (Nat.le_of_ble_eq_true rfl)) rfl ?_ | refine dr_g rfl rfl rfl (by first | exact Says.bool _ _ | exact Says.opt _ _ _) (fun hc _ => by exact y_load (.opt rfl hc) (by first | exact .here | exact .there .here | exact .there (.there .here) | exact .there (.there (.there .here)) | exact .there (.there (.there (.there .here))) | exact .there (.there (.there (.there (.there .here)))) | exact .there (.there (.there (.there (.there (.there .here)))))) rfl) rfl ?_ | refine dr_g rfl rfl rfl (by first | exact Says.bool _ _ | exact Says.opt _ _ _) (fun hc _ => by exact y_loadW (.opt rfl hc) (by first | exact .here | exact .there .here | exact .there (.there .here) | exact .there (.there (.there .here)) | exact .there (.there (.there (.there .here))) | exact .there (.there (.there (.there (.there .here)))) | exact .there (.there (.there (.there (.there (.there .here)))))) (by rfl)) rfl ?_ | refine dr_g rfl rfl rfl (by first | exact Says.bool _ _ | exact Says.opt _ _ _) (fun hc _ => by exact y_loadAgg (.opt rfl hc) (by first | exact .here | exact .there .here | exact .there (.there .here) | exact .there (.there (.there .here)) | exact .there (.there (.there (.there .here))) | exact .there (.there (.there (.there (.there .here)))) | exact .there (.there (.there (.there (.there (.there .here)))))) (Nat.le_of_ble_eq_true rfl)) rfl ?_
              refine dr_g rfl rfl rfl (by first | exact Says.bool _ _ | exact Says.opt _ _ _) (fun hc _ => by exact y_move (.plain rfl)) rfl ?_
              refine dr_g rfl rfl rfl (by first | exact Says.bool _ _ | exact Says.opt _ _ _) (fun hc _ => by exact y_move (.plain rfl)) rfl ?_
              refine dr_g rfl rfl rfl (by first | exact Says.bool _ _ | exact Says.opt _ _ _) (fun hc _ => by exact y_sub (.opt rfl hc) (.plain rfl) (by first | omega | (simp; omega) | (simp at hc; omega) | (simp at hc ⊢; omega) | (simp; done))) rfl ?_
              first | refine dr_g rfl rfl rfl (by first | exact Says.bool _ _ | exact Says.opt _ _ _) (fun hc _ => by exact y_indexMap (.opt rfl hc) (.opt rfl hc) rfl (by refine ⟨?_, ?_⟩; (first | omega | (simp; omega) | (simp at hc; omega) | (simp at hc ⊢; omega) | (simp; done)); rfl)) rfl ?_ | refine dr_g rfl rfl rfl (by first | exact Says.bool _ _ | exact Says.opt _ _ _) (fun hc _ => by exact y_indexT (.opt rfl hc) (.opt rfl hc) (by first | omega | (simp; omega) | (simp at hc; omega) | (simp at hc ⊢; omega) | (simp; done)) (by first | omega | (simp; omega) | (simp at hc; omega) | (simp at hc ⊢; omega) | (simp; done))) rfl ?_ | refine dr_g rfl rfl rfl (by first | exact Says.bool _ _ | exact Says.opt _ _ _) (fun hc _ => by exact y_index (.opt rfl hc) (.opt rfl hc) (by omega) rfl) rfl ?_ | refine dr_g rfl rfl rfl (by first | exact Says.bool _ _ | exact Says.opt _ _ _) (fun hc _ => by exact y_indexArr (.opt rfl hc) (.opt rfl hc) rfl (by first | omega | (simp; omega) | (simp at hc; omega) | (simp at hc ⊢; omega) | (simp; done))) rfl ?_ | refine dr_g rfl rfl rfl (by first | exact Says.bool _ _ | exact Says.opt _ _ _) (fun hc _ => by exact y_indexVar (.opt rfl hc) (.opt rfl hc) rfl (by first | omega | (simp; omega) | (simp at hc; omega) | (simp at hc ⊢; omega) | (simp; done))) rfl ?_
              first | refine dr_g rfl rfl rfl (by first | exact Says.bool _ _ | exact Says.opt _ _ _) (fun hc _ => by exact y_fieldPtr (.opt rfl hc)) rfl ?_ | refine dr_g rfl rfl rfl (by first | exact Says.bool _ _ | exact Says.opt _ _ _) (fun hc _ => by exact y_fieldE (.opt rfl hc) (Nat.le_of_ble_eq_true rfl)) rfl ?_
              first | refine dr_g rfl rfl rfl (by first | exact Says.bool _ _ | exact Says.opt _ _ _) (fun hc _ => by exact y_loadE (.opt rfl hc) rfl) rfl ?_ | refine dr_g rfl rfl rfl (by first | exact Says.bool _ _ | exact Says.opt _ _ _) (fun hc _ => by exact y_loadEW (.opt rfl hc) (by rfl)) rfl ?_ | refine dr_g rfl rfl rfl (by first | exact Says.bool _ _ | exact Says.opt _ _ _) (fun hc _ => by exact y_loadEAgg (.opt rfl hc) (Nat.le_of_ble_eq_true rfl)) rfl ?_ | refine dr_g rfl rfl rfl (by first | exact Says.bool _ _ | exact Says.opt _ _ _) (fun hc _ => by exact y_load (.opt rfl hc) (by first | exact .here | exact .there .here | exact .there (.there .here) | exact .there (.there (.there .here)) | exact .there (.there (.there (.there .here))) | exact .there (.there (.there (.there (.there .here)))) | exact .there (.there (.there (.there (.there (.there .here)))))) rfl) rfl ?_ | refine dr_g rfl rfl rfl (by first | exact Says.bool _ _ | exact Says.opt _ _ _) (fun hc _ => by exact y_loadW (.opt rfl hc) (by first | exact .here | exact .there .here | exact .there (.there .here) | exact .there (.there (.there .here)) | exact .there (.there (.there (.there .here))) | exact .there (.there (.there (.there (.there .here)))) | exact .there (.there (.there (.there (.there (.there .here)))))) (by rfl)) rfl ?_ | refine dr_g rfl rfl rfl (by first | exact Says.bool _ _ | exact Says.opt _ _ _) (fun hc _ => by exact y_loadAgg (.opt rfl hc) (by first | exact .here | exact .there .here | exact .there (.there .here) | exact .there (.there (.there .here)) | exact .there (.there (.there (.there .here))) | exact .there (.there (.there (.there (.there .here)))) | exact .there (.there (.there (.there (.there (.there .here)))))) (Nat.le_of_ble_eq_true rfl)) rfl ?_
              refine dr_g rfl rfl rfl (by first | exact Says.bool _ _ | exact Says.opt _ _ _) (fun hc _ => by exact y_gtr (.opt rfl hc) (.opt rfl hc)) rfl ?_
              refine dr_p (fun _ => by exact y_and (.plain rfl) rfl rfl) rfl ?_
              refine dr_nil ⟨rfl, ?_⟩
              refine awp_cond rfl (fun h5 => ?_) (fun h5 => ?_)
              · skip
                try simp only [decide_eq_true_eq, decide_eq_false_iff_not, Bool.not_eq_true', Bool.not_eq_false', Bool.not_eq_true, Bool.not_eq_false, List.length_map, Int.ofNat_lt, Int.ofNat_le, Bool.or_eq_true, Bool.and_eq_true, Bool.or_eq_false_iff, Bool.and_eq_false_iff] at h5
                refine awp_seq ?_
                refine awp_region ?_
                refine st_p (fun _ => by exact y_assign (.plain rfl)) rfl ?_
                refine aops_nil ?_
                refine awp_ret ?_
                refine ret1 (.inr rfl) rfl ?_
                exact ⟨by simp only [check, if_neg (show ¬ (d ≠ 1 ∧ d ≠ 2) by omega), if_neg (show ¬ 96 < l.length by omega), hc0, chk_order d l k h3 h4 (by simp only [toNat_pred, Int.natCast_pos] at h5; omega)], rfl⟩
              · skip
                try simp only [decide_eq_true_eq, decide_eq_false_iff_not, Bool.not_eq_true', Bool.not_eq_false', Bool.not_eq_true, Bool.not_eq_false, List.length_map, Int.ofNat_lt, Int.ofNat_le, Bool.or_eq_true, Bool.and_eq_true, Bool.or_eq_false_iff, Bool.and_eq_false_iff] at h5
                refine awp_skip ?_
                refine awp_region ?_
                refine st_p (fun _ => by exact y_move (.plain rfl)) rfl ?_
                refine st_p (fun _ => by exact y_add (.plain rfl) (.plain rfl) (by first | omega | (simp; omega) | (simp at hc; omega) | (simp at hc ⊢; omega) | (simp; done))) rfl ?_
                refine st_p (fun _ => by exact y_assign (.plain rfl)) rfl ?_
                refine aops_nil ?_
                exact ⟨k + 1, ⟨by omega, hc0.trans (chk_step d l k h3 h4 (by simp only [toNat_pred, Int.natCast_pos] at h5; omega))⟩, by omega, Weak.of (by (repeat (first | exact .nil _ | refine .cons rfl (by first | exact AV.Imp.refl _ | exact AV.Imp.grow_sl | exact AV.Imp.full_sl | exact AV.Imp.own_sl | exact AV.Imp.nil_sl | exact AV.Imp.nil_full | exact AV.Imp.nil_grow | exact AV.Imp.full_grow | exact AV.Imp.own_grow | exact AV.Imp.of_eq (congrArg AV.int (by omega)) | exact AV.Imp.of_eq (by simp; try omega)) ?_)); done) (by (repeat (first | exact .nil _ | refine .cons (by first | exact .here | exact .there .here | exact .there (.there .here) | exact .there (.there (.there .here)) | exact .there (.there (.there (.there .here))) | exact .there (.there (.there (.there (.there .here)))) | exact .there (.there (.there (.there (.there (.there .here)))))) ?_)); done)⟩
            · kernel_rfl
        · skip
          try simp only [decide_eq_true_eq, decide_eq_false_iff_not, Bool.not_eq_true', Bool.not_eq_false', Bool.not_eq_true, Bool.not_eq_false, List.length_map, Int.ofNat_lt, Int.ofNat_le, Bool.or_eq_true, Bool.and_eq_true, Bool.or_eq_false_iff, Bool.and_eq_false_iff] at h3
          refine awp_exit ?_
          refine awp_seq ?_
          refine awp_region ?_
          refine st_p (fun _ => by exact y_assign (.plain rfl)) rfl ?_
          refine aops_nil ?_
          refine awp_ret ?_
          refine ret1 (.inr rfl) rfl ?_
          exact ⟨by simp only [check, if_neg (show ¬ (d ≠ 1 ∧ d ≠ 2) by omega), if_neg (show ¬ 96 < l.length by omega), hc0, chk_end d l k (by omega)], rfl⟩

theorem removeK_c (i : Nat) (t : Int) (w : W) : ACalls Try.prog 46 [avW w, .ptr i 0] [.cells i [.int t]] (fun v st => v = .bool (!decide (w.task = t)) ∧ st = [.cells i [.int t]]) := by
  refine acalls_body Try.func46 (by kernel_rfl) rfl Try.ntmps46 (Nat.le_of_ble_eq_true rfl) ?_
  rw [Try.results46]
  refine awp_seq ?_
  refine awp_region ?_
  refine st_n (fun _ => by exact y_box (.plain rfl)) rfl fun n1 => ?_
  refine st_p (fun _ => by exact y_assign (.plain rfl)) rfl ?_
  refine aops_nil ?_
  refine awp_seq ?_
  refine awp_region ?_
  first | refine st_p (fun _ => by exact y_fieldPtr (.plain rfl)) rfl ?_ | refine st_p (fun _ => by exact y_fieldE (.plain rfl) (Nat.le_of_ble_eq_true rfl)) rfl ?_
  first | refine st_p (fun _ => by exact y_loadE (.plain rfl) rfl) rfl ?_ | refine st_p (fun _ => by exact y_loadEW (.plain rfl) (by rfl)) rfl ?_ | refine st_p (fun _ => by exact y_loadEAgg (.plain rfl) (Nat.le_of_ble_eq_true rfl)) rfl ?_ | refine st_p (fun _ => by exact y_load (.plain rfl) (by first | exact .here | exact .there .here | exact .there (.there .here) | exact .there (.there (.there .here)) | exact .there (.there (.there (.there .here))) | exact .there (.there (.there (.there (.there .here)))) | exact .there (.there (.there (.there (.there (.there .here)))))) rfl) rfl ?_ | refine st_p (fun _ => by exact y_loadW (.plain rfl) (by first | exact .here | exact .there .here | exact .there (.there .here) | exact .there (.there (.there .here)) | exact .there (.there (.there (.there .here))) | exact .there (.there (.there (.there (.there .here)))) | exact .there (.there (.there (.there (.there (.there .here)))))) (by rfl)) rfl ?_ | refine st_p (fun _ => by exact y_loadAgg (.plain rfl) (by first | exact .here | exact .there .here | exact .there (.there .here) | exact .there (.there (.there .here)) | exact .there (.there (.there (.there .here))) | exact .there (.there (.there (.there (.there .here)))) | exact .there (.there (.there (.there (.there (.there .here)))))) (Nat.le_of_ble_eq_true rfl)) rfl ?_
  first | refine st_p (fun _ => by exact y_loadE (.plain rfl) rfl) rfl ?_ | refine st_p (fun _ => by exact y_loadEW (.plain rfl) (by rfl)) rfl ?_ | refine st_p (fun _ => by exact y_loadEAgg (.plain rfl) (Nat.le_of_ble_eq_true rfl)) rfl ?_ | refine st_p (fun _ => by exact y_load (.plain rfl) (by first | exact .here | exact .there .here | exact .there (.there .here) | exact .there (.there (.there .here)) | exact .there (.there (.there (.there .here))) | exact .there (.there (.there (.there (.there .here)))) | exact .there (.there (.there (.there (.there (.there .here)))))) rfl) rfl ?_ | refine st_p (fun _ => by exact y_loadW (.plain rfl) (by first | exact .here | exact .there .here | exact .there (.there .here) | exact .there (.there (.there .here)) | exact .there (.there (.there (.there .here))) | exact .there (.there (.there (.there (.there .here)))) | exact .there (.there (.there (.there (.there (.there .here)))))) (by rfl)) rfl ?_ | refine st_p (fun _ => by exact y_loadAgg (.plain rfl) (by first | exact .here | exact .there .here | exact .there (.there .here) | exact .there (.there (.there .here)) | exact .there (.there (.there (.there .here))) | exact .there (.there (.there (.there (.there .here)))) | exact .there (.there (.there (.there (.there (.there .here)))))) (Nat.le_of_ble_eq_true rfl)) rfl ?_
  first | refine st_p (fun _ => by exact y_neq (.plain rfl) (.plain rfl)) rfl ?_ | refine st_p (fun _ => by exact y_neBool (by rfl) (.plain rfl) (.plain rfl)) rfl ?_ | refine st_p (fun _ => by exact y_neStruct (.plain rfl) (.plain rfl) .nil) rfl ?_
  refine st_p (fun _ => by exact y_assign (.plain rfl)) rfl ?_
  refine aops_nil ?_
  refine awp_ret ?_
  exact retG (.inr rfl) (.cons (.tmp rfl) .nil) (VShift.sub (AV.Imp.refl _) (List.sublist_cons_self _ _)) ⟨rfl, rfl⟩

theorem filter_c (l : List W) (hl : l.length ≤ 1000000) (f : Nat) (caps : List AV) (p : Nat → Bool) (SP : Nat → List Aw.Item → Prop) (st0 : List Aw.Item) (h0 : SP 0 st0) (h : ∀ k (hk : k < l.length) st, SP k st → ACalls Try.prog f ([avW l[k]] ++ caps) st (fun v st' => v = .bool (p k) ∧ SP (k + 1) st')) : ACalls Try.prog 43 [slW l, .clo f caps] st0 (fun v st => v = slW (kp l p l.length) ∧ SP l.length st) := by
  refine acalls_body Try.func43 (by kernel_rfl) rfl Try.ntmps43 (Nat.le_of_ble_eq_true rfl) ?_
  rw [Try.results43]
  refine awp_seq ?_
  refine awp_region ?_
  refine st_p (fun _ => by exact y_assign (.plain rfl)) rfl ?_
  refine aops_nil ?_
  refine awp_seq ?_
  refine awp_region ?_
  refine st_p (fun _ => by exact y_assign (.plain rfl)) rfl ?_
  refine aops_nil ?_
  refine awp_seq ?_
  refine awp_seq ?_
  refine awp_region ?_
  refine st_p (fun _ => by exact y_move (.plain rfl)) rfl ?_
  first | refine st_p (fun _ => by exact y_len (.plain rfl)) rfl ?_ | refine st_p (fun _ => by exact y_lenArr (.plain rfl)) rfl ?_
  refine st_p (fun _ => by exact y_move (.plain rfl)) rfl ?_
  refine aops_nil ?_
  refine awp_block ?_
  refine awp_loop (X := Nat × Option Nat × List Aw.Item) (fun x => [(0, slW l), (1, .clo f caps), (5, .grow 5 x.2.1 ((kp l p x.1).map encW)), (8, slW l), (9, .int ((l.map encW).length : Int)), (10, .int (x.1 : Int))]) (fun x => .tail x.2.1 :: x.2.2) (fun x => x.1 ≤ l.length ∧ SP x.1 x.2.2) (fun x => l.length - x.1) (0, none, st0) ⟨Nat.zero_le _, h0⟩ ?_ ?_
  · exact Weak.trans Weak.tail0 (Weak.of (by (repeat (first | exact .nil _ | refine .cons rfl (by first | exact AV.Imp.refl _ | exact AV.Imp.grow_sl | exact AV.Imp.full_sl | exact AV.Imp.own_sl | exact AV.Imp.nil_sl | exact AV.Imp.nil_full | exact AV.Imp.nil_grow | exact AV.Imp.full_grow | exact AV.Imp.own_grow | exact AV.Imp.of_eq (congrArg AV.int (by omega)) | exact AV.Imp.of_eq (by simp; try omega)) ?_)); done) (ItLe.refl _))
  · rintro ⟨k, tok, st⟩ ⟨hk, hsp⟩
    simp only at hk hsp
    refine awp_seq ?_
    refine awp_region ?_
    refine st_p (fun _ => by exact y_lss (.plain rfl) (.plain rfl)) rfl ?_
    refine aops_nil ?_
    refine awp_seq ?_
    refine awp_cond rfl (fun h1 => ?_) (fun h1 => ?_)
    · skip
      try simp only [decide_eq_true_eq, decide_eq_false_iff_not, Bool.not_eq_true', Bool.not_eq_false', Bool.not_eq_true, Bool.not_eq_false, List.length_map, Int.ofNat_lt, Int.ofNat_le, Bool.or_eq_true, Bool.and_eq_true, Bool.or_eq_false_iff, Bool.and_eq_false_iff] at h1
      refine awp_skip ?_
      refine awp_seq ?_
      refine awp_block ?_
      refine awp_seq ?_
      refine awp_region ?_
      first | refine st_p (fun _ => by exact y_indexMap (.plain rfl) (.plain rfl) rfl (by refine ⟨?_, ?_⟩; (first | omega | (simp; omega) | (simp at hc; omega) | (simp at hc ⊢; omega) | (simp; done)); rfl)) rfl ?_ | refine st_p (fun _ => by exact y_indexT (.plain rfl) (.plain rfl) (by first | omega | (simp; omega) | (simp at hc; omega) | (simp at hc ⊢; omega) | (simp; done)) (by first | omega | (simp; omega) | (simp at hc; omega) | (simp at hc ⊢; omega) | (simp; done))) rfl ?_ | refine st_p (fun _ => by exact y_index (.plain rfl) (.plain rfl) (by omega) rfl) rfl ?_ | refine st_p (fun _ => by exact y_indexArr (.plain rfl) (.plain rfl) rfl (by first | omega | (simp; omega) | (simp at hc; omega) | (simp at hc ⊢; omega) | (simp; done))) rfl ?_ | refine st_p (fun _ => by exact y_indexVar (.plain rfl) (.plain rfl) rfl (by first | omega | (simp; omega) | (simp at hc; omega) | (simp at hc ⊢; omega) | (simp; done))) rfl ?_
      first | refine st_p (fun _ => by exact y_loadE (.plain rfl) rfl) rfl ?_ | refine st_p (fun _ => by exact y_loadEW (.plain rfl) (by rfl)) rfl ?_ | refine st_p (fun _ => by exact y_loadEAgg (.plain rfl) (Nat.le_of_ble_eq_true rfl)) rfl ?_ | refine st_p (fun _ => by exact y_load (.plain rfl) (by first | exact .here | exact .there .here | exact .there (.there .here) | exact .there (.there (.there .here)) | exact .there (.there (.there (.there .here))) | exact .there (.there (.there (.there (.there .here)))) | exact .there (.there (.there (.there (.there (.there .here)))))) rfl) rfl ?_ | refine st_p (fun _ => by exact y_loadW (.plain rfl) (by first | exact .here | exact .there .here | exact .there (.there .here) | exact .there (.there (.there .here)) | exact .there (.there (.there (.there .here))) | exact .there (.there (.there (.there (.there .here)))) | exact .there (.there (.there (.there (.there (.there .here)))))) (by rfl)) rfl ?_ | refine st_p (fun _ => by exact y_loadAgg (.plain rfl) (by first | exact .here | exact .there .here | exact .there (.there .here) | exact .there (.there (.there .here)) | exact .there (.there (.there (.there .here))) | exact .there (.there (.there (.there (.there .here)))) | exact .there (.there (.there (.there (.there (.there .here)))))) (Nat.le_of_ble_eq_true rfl)) rfl ?_
      refine st_n (fun _ => by exact y_alloc) rfl fun n1 => ?_
      first | refine st_s (fun _ => by exact y_storeW (by rfl) rfl (.plain rfl) (.plain rfl) (by first | exact .here | exact .there .here | exact .there (.there .here) | exact .there (.there (.there .here)) | exact .there (.there (.there (.there .here))) | exact .there (.there (.there (.there (.there .here)))) | exact .there (.there (.there (.there (.there (.there .here)))))) (by rfl)) ?_ | refine st_s (fun _ => by exact y_store (by rfl) rfl (.plain rfl) (.plain rfl) (by first | exact .here | exact .there .here | exact .there (.there .here) | exact .there (.there (.there .here)) | exact .there (.there (.there (.there .here))) | exact .there (.there (.there (.there (.there .here)))) | exact .there (.there (.there (.there (.there (.there .here)))))) (Nat.le_of_ble_eq_true rfl)) ?_
      refine aops_nil ?_
      refine awp_seq ?_
      refine awp_region ?_
      refine st_p (fun _ => by exact y_move (.plain rfl)) rfl ?_
      first | refine st_p (fun _ => by exact y_loadE (.plain rfl) rfl) rfl ?_ | refine st_p (fun _ => by exact y_loadEW (.plain rfl) (by rfl)) rfl ?_ | refine st_p (fun _ => by exact y_loadEAgg (.plain rfl) (Nat.le_of_ble_eq_true rfl)) rfl ?_ | refine st_p (fun _ => by exact y_load (.plain rfl) (by first | exact .here | exact .there .here | exact .there (.there .here) | exact .there (.there (.there .here)) | exact .there (.there (.there (.there .here))) | exact .there (.there (.there (.there (.there .here)))) | exact .there (.there (.there (.there (.there (.there .here)))))) rfl) rfl ?_ | refine st_p (fun _ => by exact y_loadW (.plain rfl) (by first | exact .here | exact .there .here | exact .there (.there .here) | exact .there (.there (.there .here)) | exact .there (.there (.there (.there .here))) | exact .there (.there (.there (.there (.there .here)))) | exact .there (.there (.there (.there (.there (.there .here)))))) (by rfl)) rfl ?_ | refine st_p (fun _ => by exact y_loadAgg (.plain rfl) (by first | exact .here | exact .there .here | exact .there (.there .here) | exact .there (.there (.there .here)) | exact .there (.there (.there (.there .here))) | exact .there (.there (.there (.there (.there .here)))) | exact .there (.there (.there (.there (.there (.there .here)))))) (Nat.le_of_ble_eq_true rfl)) rfl ?_
      refine aops_call (blt_lt rfl) (.plain rfl) (.cons (.plain rfl) .nil) (ACalls.frame (st1 := st) (st2 := [Aw.Item.cells n1 _, Aw.Item.tail tok]) (h k h1 st hsp) (List.perm_append_comm (l₁ := [Aw.Item.cells n1 _, Aw.Item.tail tok])) ?_)
      rintro v st' ⟨rfl, hsp'⟩
      refine aops_weak (Weak.perm (st' := Aw.Item.tail tok :: Aw.Item.cells n1 _ :: st') (List.perm_append_comm.trans (List.Perm.swap _ _ _))) ?_
      refine aops_nil ?_
      refine awp_cond rfl (fun h2 => ?_) (fun h2 => ?_)
      · skip
        try simp only [decide_eq_true_eq, decide_eq_false_iff_not, Bool.not_eq_true', Bool.not_eq_false', Bool.not_eq_true, Bool.not_eq_false, List.length_map, Int.ofNat_lt, Int.ofNat_le, Bool.or_eq_true, Bool.and_eq_true, Bool.or_eq_false_iff, Bool.and_eq_false_iff] at h2
        refine awp_region ?_
        refine st_p (fun _ => by exact y_move (.plain rfl)) rfl ?_
        first | refine st_p (fun _ => by exact y_loadE (.plain rfl) rfl) rfl ?_ | refine st_p (fun _ => by exact y_loadEW (.plain rfl) (by rfl)) rfl ?_ | refine st_p (fun _ => by exact y_loadEAgg (.plain rfl) (Nat.le_of_ble_eq_true rfl)) rfl ?_ | refine st_p (fun _ => by exact y_load (.plain rfl) (by first | exact .here | exact .there .here | exact .there (.there .here) | exact .there (.there (.there .here)) | exact .there (.there (.there (.there .here))) | exact .there (.there (.there (.there (.there .here)))) | exact .there (.there (.there (.there (.there (.there .here)))))) rfl) rfl ?_ | refine st_p (fun _ => by exact y_loadW (.plain rfl) (by first | exact .here | exact .there .here | exact .there (.there .here) | exact .there (.there (.there .here)) | exact .there (.there (.there (.there .here))) | exact .there (.there (.there (.there (.there .here)))) | exact .there (.there (.there (.there (.there (.there .here)))))) (by rfl)) rfl ?_ | refine st_p (fun _ => by exact y_loadAgg (.plain rfl) (by first | exact .here | exact .there .here | exact .there (.there .here) | exact .there (.there (.there .here)) | exact .there (.there (.there (.there .here))) | exact .there (.there (.there (.there (.there .here)))) | exact .there (.there (.there (.there (.there (.there .here)))))) (Nat.le_of_ble_eq_true rfl)) rfl ?_
        refine st_p (fun _ => by exact y_buildSlice (.cons (.plain rfl) inferInstance (by rfl) .nil) rfl (Nat.le_of_ble_eq_true rfl)) rfl ?_
        have hkl := kp_len l p k
        first | refine st_append (by rfl) (.plain rfl) (.plain rfl) (by simp; try omega) rfl fun t2 => ?_ | refine st_appendT (by rfl) (.plain rfl) (.plain rfl) (by first | exact .here | exact .there .here | exact .there (.there .here) | exact .there (.there (.there .here)) | exact .there (.there (.there (.there .here))) | exact .there (.there (.there (.there (.there .here)))) | exact .there (.there (.there (.there (.there (.there .here)))))) (by simp; try omega) rfl fun t2 => ?_ | refine st_append0 (by rfl) (.plain rfl) (.plain rfl) (by simp; try omega) rfl fun t2 => ?_ | refine st_append0 (by rfl) (.imp (.plain rfl) AV.Imp.nil_grow) (.plain rfl) (by simp; try omega) rfl fun t2 => ?_ | refine st_append0 (by rfl) (.imp (.plain rfl) AV.Imp.full_grow) (.plain rfl) (by simp; try omega) rfl fun t2 => ?_ | refine st_appendT (by rfl) (.imp (.plain rfl) AV.Imp.own_grow) (.plain rfl) (by first | exact .here | exact .there .here | exact .there (.there .here) | exact .there (.there (.there .here)) | exact .there (.there (.there (.there .here))) | exact .there (.there (.there (.there (.there .here)))) | exact .there (.there (.there (.there (.there (.there .here)))))) (by simp; try omega) rfl fun t2 => ?_
        refine st_p (fun _ => by exact y_assign (.plain rfl)) rfl ?_
        refine aops_nil ?_
        refine awp_region ?_
        refine st_p (fun _ => by exact y_add (.plain rfl) (.plain rfl) (by first | omega | (simp; omega) | (simp at hc; omega) | (simp at hc ⊢; omega) | (simp; done))) rfl ?_
        refine st_p (fun _ => by exact y_move (.plain rfl)) rfl ?_
        refine aops_nil ?_
        first | exact ⟨(k + 1, t2, st'), ⟨by show k + 1 ≤ _; omega, hsp'⟩, by show l.length - (k + 1) < l.length - k; omega, Weak.trans (Weak.sub (List.Sublist.cons_cons _ (List.sublist_cons_self _ _))) (Weak.of (by (repeat (first | exact .nil _ | refine .cons rfl (by first | exact AV.Imp.refl _ | exact AV.Imp.of_eq (by rw [kp_t l p k h1 h2, List.map_append]; rfl)) ?_ | refine .cons rfl (by first | exact AV.Imp.refl _ | exact AV.Imp.grow_sl | exact AV.Imp.full_sl | exact AV.Imp.own_sl | exact AV.Imp.nil_sl | exact AV.Imp.nil_full | exact AV.Imp.nil_grow | exact AV.Imp.full_grow | exact AV.Imp.own_grow | exact AV.Imp.of_eq (congrArg AV.int (by omega)) | exact AV.Imp.of_eq (by simp; try omega)) ?_)); done) (ItLe.refl _))⟩ | exact ⟨(k + 1, tok, st'), ⟨by show k + 1 ≤ _; omega, hsp'⟩, by show l.length - (k + 1) < l.length - k; omega, Weak.trans (Weak.sub (List.Sublist.cons_cons _ (List.sublist_cons_self _ _))) (Weak.of (by (repeat (first | exact .nil _ | refine .cons rfl (by first | exact AV.Imp.refl _ | exact AV.Imp.of_eq (by rw [kp_f l p k h2])) ?_ | refine .cons rfl (by first | exact AV.Imp.refl _ | exact AV.Imp.grow_sl | exact AV.Imp.full_sl | exact AV.Imp.own_sl | exact AV.Imp.nil_sl | exact AV.Imp.nil_full | exact AV.Imp.nil_grow | exact AV.Imp.full_grow | exact AV.Imp.own_grow | exact AV.Imp.of_eq (congrArg AV.int (by omega)) | exact AV.Imp.of_eq (by simp; try omega)) ?_)); done) (ItLe.refl _))⟩
      · skip
        try simp only [decide_eq_true_eq, decide_eq_false_iff_not, Bool.not_eq_true', Bool.not_eq_false', Bool.not_eq_true, Bool.not_eq_false, List.length_map, Int.ofNat_lt, Int.ofNat_le, Bool.or_eq_true, Bool.and_eq_true, Bool.or_eq_false_iff, Bool.and_eq_false_iff] at h2
        refine awp_skip ?_
        refine awp_region ?_
        refine st_p (fun _ => by exact y_add (.plain rfl) (.plain rfl) (by first | omega | (simp; omega) | (simp at hc; omega) | (simp at hc ⊢; omega) | (simp; done))) rfl ?_
        refine st_p (fun _ => by exact y_move (.plain rfl)) rfl ?_
        refine aops_nil ?_
        first | exact ⟨(k + 1, t2, st'), ⟨by show k + 1 ≤ _; omega, hsp'⟩, by show l.length - (k + 1) < l.length - k; omega, Weak.trans (Weak.sub (List.Sublist.cons_cons _ (List.sublist_cons_self _ _))) (Weak.of (by (repeat (first | exact .nil _ | refine .cons rfl (by first | exact AV.Imp.refl _ | exact AV.Imp.of_eq (by rw [kp_t l p k h1 h2, List.map_append]; rfl)) ?_ | refine .cons rfl (by first | exact AV.Imp.refl _ | exact AV.Imp.grow_sl | exact AV.Imp.full_sl | exact AV.Imp.own_sl | exact AV.Imp.nil_sl | exact AV.Imp.nil_full | exact AV.Imp.nil_grow | exact AV.Imp.full_grow | exact AV.Imp.own_grow | exact AV.Imp.of_eq (congrArg AV.int (by omega)) | exact AV.Imp.of_eq (by simp; try omega)) ?_)); done) (ItLe.refl _))⟩ | exact ⟨(k + 1, tok, st'), ⟨by show k + 1 ≤ _; omega, hsp'⟩, by show l.length - (k + 1) < l.length - k; omega, Weak.trans (Weak.sub (List.Sublist.cons_cons _ (List.sublist_cons_self _ _))) (Weak.of (by (repeat (first | exact .nil _ | refine .cons rfl (by first | exact AV.Imp.refl _ | exact AV.Imp.of_eq (by rw [kp_f l p k h2])) ?_ | refine .cons rfl (by first | exact AV.Imp.refl _ | exact AV.Imp.grow_sl | exact AV.Imp.full_sl | exact AV.Imp.own_sl | exact AV.Imp.nil_sl | exact AV.Imp.nil_full | exact AV.Imp.nil_grow | exact AV.Imp.full_grow | exact AV.Imp.own_grow | exact AV.Imp.of_eq (congrArg AV.int (by omega)) | exact AV.Imp.of_eq (by simp; try omega)) ?_)); done) (ItLe.refl _))⟩
    · skip
      try simp only [decide_eq_true_eq, decide_eq_false_iff_not, Bool.not_eq_true', Bool.not_eq_false', Bool.not_eq_true, Bool.not_eq_false, List.length_map, Int.ofNat_lt, Int.ofNat_le, Bool.or_eq_true, Bool.and_eq_true, Bool.or_eq_false_iff, Bool.and_eq_false_iff] at h1
      refine awp_exit ?_
      refine awp_seq ?_
      refine awp_region ?_
      refine st_p (fun _ => by exact y_move (.plain rfl)) rfl ?_
      refine st_p (fun _ => by exact y_assign (.plain rfl)) rfl ?_
      refine aops_nil ?_
      refine awp_ret ?_
      obtain rfl : k = l.length := by omega
      exact retG (.inr rfl) (.cons (.tmp rfl) .nil) (VShift.sub AV.Imp.grow_sl (List.sublist_cons_self _ _)) ⟨rfl, hsp⟩

theorem waiter_c (a b c : Int) : ACalls Try.prog 41 [.int a, .int b, .int c] [] (fun v st => v = avW ⟨a, 60, b, c, -1⟩ ∧ st = []) := by
  refine acalls_body Try.func41 (by kernel_rfl) rfl Try.ntmps41 (Nat.le_of_ble_eq_true rfl) ?_
  rw [Try.results41]
  refine awp_seq ?_
  refine awp_region ?_
  refine st_n (fun _ => by exact y_alloc) rfl fun n1 => ?_
  refine aops_nil ?_
  refine awp_seq ?_
  refine awp_region ?_
  refine st_p (fun _ => by exact y_move (.plain rfl)) rfl ?_
  refine st_p (fun _ => by exact y_move (.plain rfl)) rfl ?_
  refine st_p (fun _ => by exact y_move (.plain rfl)) rfl ?_
  refine st_p (fun _ => by exact y_build (.cons (.plain rfl) inferInstance rfl (.cons (.plain rfl) inferInstance rfl (.cons (.plain rfl) inferInstance rfl (.cons (.plain rfl) inferInstance rfl (.cons (.plain rfl) inferInstance rfl .nil))))) rfl rfl) rfl ?_
  first | refine st_s (fun _ => by exact y_storeW (by rfl) rfl (.plain rfl) (.plain rfl) (by first | exact .here | exact .there .here | exact .there (.there .here) | exact .there (.there (.there .here)) | exact .there (.there (.there (.there .here))) | exact .there (.there (.there (.there (.there .here)))) | exact .there (.there (.there (.there (.there (.there .here)))))) (by rfl)) ?_ | refine st_s (fun _ => by exact y_store (by rfl) rfl (.plain rfl) (.plain rfl) (by first | exact .here | exact .there .here | exact .there (.there .here) | exact .there (.there (.there .here)) | exact .there (.there (.there (.there .here))) | exact .there (.there (.there (.there (.there .here)))) | exact .there (.there (.there (.there (.there (.there .here)))))) (Nat.le_of_ble_eq_true rfl)) ?_
  refine aops_nil ?_
  refine awp_ret ?_
  exact retG (.inr rfl) (.cons (res_cellW rfl .here (by rfl)) .nil) VShift.drop ⟨rfl, rfl⟩

theorem findR_c (l : List W) (t : Int) (hl : l.length ≤ 1000000) : ACalls Try.prog 19 [slW l, .int t] [] (fun v st => v = .tup [.int (findI l t), .bool (findB l t)] ∧ st = []) := by
  refine acalls_body Try.func19 (by kernel_rfl) rfl Try.ntmps19 (Nat.le_of_ble_eq_true rfl) ?_
  rw [Try.results19]
  refine awp_seq ?_
  refine awp_region ?_
  refine st_p (fun _ => by exact y_assign (.plain rfl)) rfl ?_
  refine st_p (fun _ => by exact y_assign (.plain rfl)) rfl ?_
  refine aops_nil ?_
  refine awp_seq ?_
  refine awp_seq ?_
  refine awp_region ?_
  refine st_p (fun _ => by exact y_assign (.plain rfl)) rfl ?_
  refine aops_nil ?_
  refine awp_block ?_
  refine awp_loop (X := Nat) (fun x => [(0, slW l), (1, .int t), (6, .int (x : Int))]) (fun x => []) (fun x => x ≤ l.length ∧ ∀ i (h : i < l.length), i < x → l[i].task ≠ t) (fun x => l.length - x) 0 ⟨Nat.zero_le _, by omega⟩ ?_ ?_
  · exact Weak.of (by (repeat (first | exact .nil _ | refine .cons rfl (by first | exact AV.Imp.refl _ | exact AV.Imp.grow_sl | exact AV.Imp.full_sl | exact AV.Imp.own_sl | exact AV.Imp.nil_sl | exact AV.Imp.nil_full | exact AV.Imp.nil_grow | exact AV.Imp.full_grow | exact AV.Imp.own_grow | exact AV.Imp.of_eq (congrArg AV.int (by omega)) | exact AV.Imp.of_eq (by simp; try omega)) ?_)); done) (by (repeat (first | exact .nil _ | refine .cons (by first | exact .here | exact .there .here | exact .there (.there .here) | exact .there (.there (.there .here)) | exact .there (.there (.there (.there .here))) | exact .there (.there (.there (.there (.there .here)))) | exact .there (.there (.there (.there (.there (.there .here)))))) ?_)); done)
  · rintro k ⟨hk, hno⟩
    refine awp_seq ?_
    refine awp_seq ?_
    refine awp_region ?_
    refine st_p (fun _ => by exact y_move (.plain rfl)) rfl ?_
    refine st_p (fun _ => by exact y_move (.plain rfl)) rfl ?_
    first | refine st_p (fun _ => by exact y_len (.plain rfl)) rfl ?_ | refine st_p (fun _ => by exact y_lenArr (.plain rfl)) rfl ?_
    refine st_p (fun _ => by exact y_lss (.plain rfl) (.plain rfl)) rfl ?_
    refine aops_nil ?_
    refine awp_cond rfl (fun h1 => ?_) (fun h1 => ?_)
    · skip
      try simp only [decide_eq_true_eq, decide_eq_false_iff_not, Bool.not_eq_true', Bool.not_eq_false', Bool.not_eq_true, Bool.not_eq_false, List.length_map, Int.ofNat_lt, Int.ofNat_le, Bool.or_eq_true, Bool.and_eq_true, Bool.or_eq_false_iff, Bool.and_eq_false_iff] at h1
      refine awp_skip ?_
      refine awp_seq ?_
      refine awp_block ?_
      refine awp_seq ?_
      refine awp_region ?_
      refine st_p (fun _ => by exact y_move (.plain rfl)) rfl ?_
      refine st_p (fun _ => by exact y_move (.plain rfl)) rfl ?_
      first | refine st_p (fun _ => by exact y_indexMap (.plain rfl) (.plain rfl) rfl (by refine ⟨?_, ?_⟩; (first | omega | (simp; omega) | (simp at hc; omega) | (simp at hc ⊢; omega) | (simp; done)); rfl)) rfl ?_ | refine st_p (fun _ => by exact y_indexT (.plain rfl) (.plain rfl) (by first | omega | (simp; omega) | (simp at hc; omega) | (simp at hc ⊢; omega) | (simp; done)) (by first | omega | (simp; omega) | (simp at hc; omega) | (simp at hc ⊢; omega) | (simp; done))) rfl ?_ | refine st_p (fun _ => by exact y_index (.plain rfl) (.plain rfl) (by omega) rfl) rfl ?_ | refine st_p (fun _ => by exact y_indexArr (.plain rfl) (.plain rfl) rfl (by first | omega | (simp; omega) | (simp at hc; omega) | (simp at hc ⊢; omega) | (simp; done))) rfl ?_ | refine st_p (fun _ => by exact y_indexVar (.plain rfl) (.plain rfl) rfl (by first | omega | (simp; omega) | (simp at hc; omega) | (simp at hc ⊢; omega) | (simp; done))) rfl ?_
      first | refine st_p (fun _ => by exact y_fieldPtr (.plain rfl)) rfl ?_ | refine st_p (fun _ => by exact y_fieldE (.plain rfl) (Nat.le_of_ble_eq_true rfl)) rfl ?_
      first | refine st_p (fun _ => by exact y_loadE (.plain rfl) rfl) rfl ?_ | refine st_p (fun _ => by exact y_loadEW (.plain rfl) (by rfl)) rfl ?_ | refine st_p (fun _ => by exact y_loadEAgg (.plain rfl) (Nat.le_of_ble_eq_true rfl)) rfl ?_ | refine st_p (fun _ => by exact y_load (.plain rfl) (by first | exact .here | exact .there .here | exact .there (.there .here) | exact .there (.there (.there .here)) | exact .there (.there (.there (.there .here))) | exact .there (.there (.there (.there (.there .here)))) | exact .there (.there (.there (.there (.there (.there .here)))))) rfl) rfl ?_ | refine st_p (fun _ => by exact y_loadW (.plain rfl) (by first | exact .here | exact .there .here | exact .there (.there .here) | exact .there (.there (.there .here)) | exact .there (.there (.there (.there .here))) | exact .there (.there (.there (.there (.there .here)))) | exact .there (.there (.there (.there (.there (.there .here)))))) (by rfl)) rfl ?_ | refine st_p (fun _ => by exact y_loadAgg (.plain rfl) (by first | exact .here | exact .there .here | exact .there (.there .here) | exact .there (.there (.there .here)) | exact .there (.there (.there (.there .here))) | exact .there (.there (.there (.there (.there .here)))) | exact .there (.there (.there (.there (.there (.there .here)))))) (Nat.le_of_ble_eq_true rfl)) rfl ?_
      refine st_p (fun _ => by exact y_move (.plain rfl)) rfl ?_
      first | refine st_p (fun _ => by exact y_eql (.plain rfl) (.plain rfl)) rfl ?_ | refine st_p (fun _ => by exact y_eqBool (by rfl) (.plain rfl) (.plain rfl)) rfl ?_ | refine st_p (fun _ => by exact y_eqStruct (.plain rfl) (.plain rfl) .nil) rfl ?_
      refine aops_nil ?_
      refine awp_cond rfl (fun h2 => ?_) (fun h2 => ?_)
      · skip
        try simp only [decide_eq_true_eq, decide_eq_false_iff_not, Bool.not_eq_true', Bool.not_eq_false', Bool.not_eq_true, Bool.not_eq_false, List.length_map, Int.ofNat_lt, Int.ofNat_le, Bool.or_eq_true, Bool.and_eq_true, Bool.or_eq_false_iff, Bool.and_eq_false_iff] at h2
        refine awp_seq ?_
        refine awp_region ?_
        refine st_p (fun _ => by exact y_move (.plain rfl)) rfl ?_
        refine st_p (fun _ => by exact y_assign (.plain rfl)) rfl ?_
        refine st_p (fun _ => by exact y_assign (.plain rfl)) rfl ?_
        refine aops_nil ?_
        refine awp_ret ?_
        refine ret2 (.inr rfl) rfl rfl ?_
        exact ⟨by simp only [findI, findB, find_at l t k h1 h2 hno, Option.isSome_some], rfl⟩
      · skip
        try simp only [decide_eq_true_eq, decide_eq_false_iff_not, Bool.not_eq_true', Bool.not_eq_false', Bool.not_eq_true, Bool.not_eq_false, List.length_map, Int.ofNat_lt, Int.ofNat_le, Bool.or_eq_true, Bool.and_eq_true, Bool.or_eq_false_iff, Bool.and_eq_false_iff] at h2
        refine awp_skip ?_
        refine awp_region ?_
        refine st_p (fun _ => by exact y_move (.plain rfl)) rfl ?_
        refine st_p (fun _ => by exact y_add (.plain rfl) (.plain rfl) (by first | omega | (simp; omega) | (simp at hc; omega) | (simp at hc ⊢; omega) | (simp; done))) rfl ?_
        refine st_p (fun _ => by exact y_assign (.plain rfl)) rfl ?_
        refine aops_nil ?_
        exact ⟨k + 1, ⟨by omega, fun i hi hik => (by by_cases e : i = k; (subst e; exact h2); exact hno i hi (by omega))⟩, by omega, Weak.of (by (repeat (first | exact .nil _ | refine .cons rfl (by first | exact AV.Imp.refl _ | exact AV.Imp.grow_sl | exact AV.Imp.full_sl | exact AV.Imp.own_sl | exact AV.Imp.nil_sl | exact AV.Imp.nil_full | exact AV.Imp.nil_grow | exact AV.Imp.full_grow | exact AV.Imp.own_grow | exact AV.Imp.of_eq (congrArg AV.int (by omega)) | exact AV.Imp.of_eq (by simp; try omega)) ?_)); done) (by (repeat (first | exact .nil _ | refine .cons (by first | exact .here | exact .there .here | exact .there (.there .here) | exact .there (.there (.there .here)) | exact .there (.there (.there (.there .here))) | exact .there (.there (.there (.there (.there .here)))) | exact .there (.there (.there (.there (.there (.there .here)))))) ?_)); done)⟩
    · skip
      try simp only [decide_eq_true_eq, decide_eq_false_iff_not, Bool.not_eq_true', Bool.not_eq_false', Bool.not_eq_true, Bool.not_eq_false, List.length_map, Int.ofNat_lt, Int.ofNat_le, Bool.or_eq_true, Bool.and_eq_true, Bool.or_eq_false_iff, Bool.and_eq_false_iff] at h1
      refine awp_exit ?_
      refine awp_seq ?_
      refine awp_region ?_
      refine st_p (fun _ => by exact y_assign (.plain rfl)) rfl ?_
      refine st_p (fun _ => by exact y_assign (.plain rfl)) rfl ?_
      refine aops_nil ?_
      refine awp_ret ?_
      refine ret2 (.inr rfl) rfl rfl ?_
      exact ⟨by simp only [findI, findB, find_no l t (fun i hi => hno i hi (by omega)), Option.isSome_none], rfl⟩

theorem equal_c (a b : List W) (ha : a.length ≤ 1000000) : ACalls Try.prog 17 [slW a, slW b] [] (fun v st => v = .bool (decide (a = b)) ∧ st = []) := by
  refine acalls_body Try.func17 (by kernel_rfl) rfl Try.ntmps17 (Nat.le_of_ble_eq_true rfl) ?_
  rw [Try.results17]
  refine awp_seq ?_
  refine awp_region ?_
  refine st_p (fun _ => by exact y_assign (.plain rfl)) rfl ?_
  refine aops_nil ?_
  refine awp_seq ?_
  refine awp_seq ?_
  refine awp_region ?_
  refine st_p (fun _ => by exact y_move (.plain rfl)) rfl ?_
  first | refine st_p (fun _ => by exact y_len (.plain rfl)) rfl ?_ | refine st_p (fun _ => by exact y_lenArr (.plain rfl)) rfl ?_
  refine st_p (fun _ => by exact y_move (.plain rfl)) rfl ?_
  first | refine st_p (fun _ => by exact y_len (.plain rfl)) rfl ?_ | refine st_p (fun _ => by exact y_lenArr (.plain rfl)) rfl ?_
  first | refine st_p (fun _ => by exact y_neq (.plain rfl) (.plain rfl)) rfl ?_ | refine st_p (fun _ => by exact y_neBool (by rfl) (.plain rfl) (.plain rfl)) rfl ?_ | refine st_p (fun _ => by exact y_neStruct (.plain rfl) (.plain rfl) .nil) rfl ?_
  refine aops_nil ?_
  refine awp_cond rfl (fun h1 => ?_) (fun h1 => ?_)
  · skip
    try simp only [decide_eq_true_eq, decide_eq_false_iff_not, Bool.not_eq_true', Bool.not_eq_false', Bool.not_eq_true, Bool.not_eq_false, List.length_map, Int.ofNat_lt, Int.ofNat_le, Bool.or_eq_true, Bool.and_eq_true, Bool.or_eq_false_iff, Bool.and_eq_false_iff] at h1
    refine awp_seq ?_
    refine awp_region ?_
    refine st_p (fun _ => by exact y_assign (.plain rfl)) rfl ?_
    refine aops_nil ?_
    refine awp_ret ?_
    refine ret1 (.inr rfl) rfl ?_
    exact ⟨AV.bool_congr (by simp; intro e; exact h1 (by rw [e])), rfl⟩
  · skip
    try simp only [decide_eq_true_eq, decide_eq_false_iff_not, Bool.not_eq_true', Bool.not_eq_false', Bool.not_eq_true, Bool.not_eq_false, List.length_map, Int.ofNat_lt, Int.ofNat_le, Bool.or_eq_true, Bool.and_eq_true, Bool.or_eq_false_iff, Bool.and_eq_false_iff] at h1
    refine awp_skip ?_
    refine awp_seq ?_
    refine awp_seq ?_
    refine awp_region ?_
    refine st_p (fun _ => by exact y_move (.plain rfl)) rfl ?_
    first | refine st_p (fun _ => by exact y_len (.plain rfl)) rfl ?_ | refine st_p (fun _ => by exact y_lenArr (.plain rfl)) rfl ?_
    refine st_p (fun _ => by exact y_move (.plain rfl)) rfl ?_
    refine aops_nil ?_
    refine awp_block ?_
    refine awp_loop (X := Nat) (fun x => [(0, slW a), (1, slW b), (12, .int ((a.map encW).length : Int)), (13, .int (x : Int))]) (fun x => []) (fun x => x ≤ a.length ∧ ∀ i (h : i < a.length) (h2 : i < b.length), i < x → a[i] = b[i]) (fun x => a.length - x) 0 ⟨Nat.zero_le _, by omega⟩ ?_ ?_
    · exact Weak.of (by (repeat (first | exact .nil _ | refine .cons rfl (by first | exact AV.Imp.refl _ | exact AV.Imp.grow_sl | exact AV.Imp.full_sl | exact AV.Imp.own_sl | exact AV.Imp.nil_sl | exact AV.Imp.nil_full | exact AV.Imp.nil_grow | exact AV.Imp.full_grow | exact AV.Imp.own_grow | exact AV.Imp.of_eq (congrArg AV.int (by omega)) | exact AV.Imp.of_eq (by simp; try omega)) ?_)); done) (by (repeat (first | exact .nil _ | refine .cons (by first | exact .here | exact .there .here | exact .there (.there .here) | exact .there (.there (.there .here)) | exact .there (.there (.there (.there .here))) | exact .there (.there (.there (.there (.there .here)))) | exact .there (.there (.there (.there (.there (.there .here)))))) ?_)); done)
    · rintro k ⟨hk, hno⟩
      refine awp_seq ?_
      refine awp_region ?_
      refine st_p (fun _ => by exact y_lss (.plain rfl) (.plain rfl)) rfl ?_
      refine aops_nil ?_
      refine awp_seq ?_
      refine awp_cond rfl (fun h2 => ?_) (fun h2 => ?_)
      · skip
        try simp only [decide_eq_true_eq, decide_eq_false_iff_not, Bool.not_eq_true', Bool.not_eq_false', Bool.not_eq_true, Bool.not_eq_false, List.length_map, Int.ofNat_lt, Int.ofNat_le, Bool.or_eq_true, Bool.and_eq_true, Bool.or_eq_false_iff, Bool.and_eq_false_iff] at h2
        refine awp_skip ?_
        refine awp_seq ?_
        refine awp_block ?_
        refine awp_seq ?_
        refine awp_region ?_
        refine st_p (fun _ => by exact y_move (.plain rfl)) rfl ?_
        refine st_p (fun _ => by exact y_assign (.plain rfl)) rfl ?_
        refine aops_nil ?_
        refine awp_seq ?_
        refine awp_any0 (ks := [.free, .free, .free, .free, .free, .free, .free, .free, .free]) (by kernel_rfl) (fun K => ?_) ?_
        · skip
          have hkb : k < b.length := by omega
          refine dr_p (fun _ => by exact y_move (.plain rfl)) rfl ?_
          refine dr_p (fun _ => by exact y_move (.plain rfl)) rfl ?_
          first | refine dr_p (fun _ => by exact y_indexMap (.plain rfl) (.plain rfl) rfl (by refine ⟨?_, ?_⟩; (first | omega | (simp; omega) | (simp at hc; omega) | (simp at hc ⊢; omega) | (simp; done)); rfl)) rfl ?_ | refine dr_p (fun _ => by exact y_indexT (.plain rfl) (.plain rfl) (by first | omega | (simp; omega) | (simp at hc; omega) | (simp at hc ⊢; omega) | (simp; done)) (by first | omega | (simp; omega) | (simp at hc; omega) | (simp at hc ⊢; omega) | (simp; done))) rfl ?_ | refine dr_p (fun _ => by exact y_index (.plain rfl) (.plain rfl) (by omega) rfl) rfl ?_ | refine dr_p (fun _ => by exact y_indexArr (.plain rfl) (.plain rfl) rfl (by first | omega | (simp; omega) | (simp at hc; omega) | (simp at hc ⊢; omega) | (simp; done))) rfl ?_ | refine dr_p (fun _ => by exact y_indexVar (.plain rfl) (.plain rfl) rfl (by first | omega | (simp; omega) | (simp at hc; omega) | (simp at hc ⊢; omega) | (simp; done))) rfl ?_
          first | refine dr_p (fun _ => by exact y_loadE (.plain rfl) rfl) rfl ?_ | refine dr_p (fun _ => by exact y_loadEW (.plain rfl) (by rfl)) rfl ?_ | refine dr_p (fun _ => by exact y_loadEAgg (.plain rfl) (Nat.le_of_ble_eq_true rfl)) rfl ?_ | refine dr_p (fun _ => by exact y_load (.plain rfl) (by first | exact .here | exact .there .here | exact .there (.there .here) | exact .there (.there (.there .here)) | exact .there (.there (.there (.there .here))) | exact .there (.there (.there (.there (.there .here)))) | exact .there (.there (.there (.there (.there (.there .here)))))) rfl) rfl ?_ | refine dr_p (fun _ => by exact y_loadW (.plain rfl) (by first | exact .here | exact .there .here | exact .there (.there .here) | exact .there (.there (.there .here)) | exact .there (.there (.there (.there .here))) | exact .there (.there (.there (.there (.there .here)))) | exact .there (.there (.there (.there (.there (.there .here)))))) (by rfl)) rfl ?_ | refine dr_p (fun _ => by exact y_loadAgg (.plain rfl) (by first | exact .here | exact .there .here | exact .there (.there .here) | exact .there (.there (.there .here)) | exact .there (.there (.there (.there .here))) | exact .there (.there (.there (.there (.there .here)))) | exact .there (.there (.there (.there (.there (.there .here)))))) (Nat.le_of_ble_eq_true rfl)) rfl ?_
          refine dr_p (fun _ => by exact y_move (.plain rfl)) rfl ?_
          refine dr_p (fun _ => by exact y_move (.plain rfl)) rfl ?_
          first | refine dr_p (fun _ => by exact y_indexMap (.plain rfl) (.plain rfl) rfl (by refine ⟨?_, ?_⟩; (first | omega | (simp; omega) | (simp at hc; omega) | (simp at hc ⊢; omega) | (simp; done)); rfl)) rfl ?_ | refine dr_p (fun _ => by exact y_indexT (.plain rfl) (.plain rfl) (by first | omega | (simp; omega) | (simp at hc; omega) | (simp at hc ⊢; omega) | (simp; done)) (by first | omega | (simp; omega) | (simp at hc; omega) | (simp at hc ⊢; omega) | (simp; done))) rfl ?_ | refine dr_p (fun _ => by exact y_index (.plain rfl) (.plain rfl) (by omega) rfl) rfl ?_ | refine dr_p (fun _ => by exact y_indexArr (.plain rfl) (.plain rfl) rfl (by first | omega | (simp; omega) | (simp at hc; omega) | (simp at hc ⊢; omega) | (simp; done))) rfl ?_ | refine dr_p (fun _ => by exact y_indexVar (.plain rfl) (.plain rfl) rfl (by first | omega | (simp; omega) | (simp at hc; omega) | (simp at hc ⊢; omega) | (simp; done))) rfl ?_
          first | refine dr_p (fun _ => by exact y_loadE (.plain rfl) rfl) rfl ?_ | refine dr_p (fun _ => by exact y_loadEW (.plain rfl) (by rfl)) rfl ?_ | refine dr_p (fun _ => by exact y_loadEAgg (.plain rfl) (Nat.le_of_ble_eq_true rfl)) rfl ?_ | refine dr_p (fun _ => by exact y_load (.plain rfl) (by first | exact .here | exact .there .here | exact .there (.there .here) | exact .there (.there (.there .here)) | exact .there (.there (.there (.there .here))) | exact .there (.there (.there (.there (.there .here)))) | exact .there (.there (.there (.there (.there (.there .here)))))) rfl) rfl ?_ | refine dr_p (fun _ => by exact y_loadW (.plain rfl) (by first | exact .here | exact .there .here | exact .there (.there .here) | exact .there (.there (.there .here)) | exact .there (.there (.there (.there .here))) | exact .there (.there (.there (.there (.there .here)))) | exact .there (.there (.there (.there (.there (.there .here)))))) (by rfl)) rfl ?_ | refine dr_p (fun _ => by exact y_loadAgg (.plain rfl) (by first | exact .here | exact .there .here | exact .there (.there .here) | exact .there (.there (.there .here)) | exact .there (.there (.there (.there .here))) | exact .there (.there (.there (.there (.there .here)))) | exact .there (.there (.there (.there (.there (.there .here)))))) (Nat.le_of_ble_eq_true rfl)) rfl ?_
          first | refine dr_p (fun _ => by exact y_neq (.plain rfl) (.plain rfl)) rfl ?_ | refine dr_p (fun _ => by exact y_neBool (by rfl) (.plain rfl) (.plain rfl)) rfl ?_ | refine dr_p (fun _ => by exact y_neStruct (.plain rfl) (.plain rfl) (.int (k' := .i64) (by kernel_rfl) (.int (k' := .i64) (by kernel_rfl) (.int (k' := .i64) (by kernel_rfl) (.int (k' := .i64) (by kernel_rfl) (.int (k' := .i64) (by kernel_rfl) .nil)))))) rfl ?_
          refine dr_nil ⟨rfl, ?_⟩
          refine awp_cond rfl (fun h3 => ?_) (fun h3 => ?_)
          · skip
            try simp only [decide_eq_true_eq, decide_eq_false_iff_not, Bool.not_eq_true', Bool.not_eq_false', Bool.not_eq_true, Bool.not_eq_false, List.length_map, Int.ofNat_lt, Int.ofNat_le, Bool.or_eq_true, Bool.and_eq_true, Bool.or_eq_false_iff, Bool.and_eq_false_iff] at h3
            refine awp_seq ?_
            refine awp_region ?_
            refine st_p (fun _ => by exact y_assign (.plain rfl)) rfl ?_
            refine aops_nil ?_
            refine awp_ret ?_
            refine ret1 (.inr rfl) rfl ?_
            exact ⟨AV.bool_congr (by simp; rintro rfl; exact by simp at h3), rfl⟩
          · skip
            try simp only [decide_eq_true_eq, decide_eq_false_iff_not, Bool.not_eq_true', Bool.not_eq_false', Bool.not_eq_true, Bool.not_eq_false, List.length_map, Int.ofNat_lt, Int.ofNat_le, Bool.or_eq_true, Bool.and_eq_true, Bool.or_eq_false_iff, Bool.and_eq_false_iff] at h3
            refine awp_skip ?_
            refine awp_region ?_
            refine st_p (fun _ => by exact y_add (.plain rfl) (.plain rfl) (by first | omega | (simp; omega) | (simp at hc; omega) | (simp at hc ⊢; omega) | (simp; done))) rfl ?_
            refine st_p (fun _ => by exact y_move (.plain rfl)) rfl ?_
            refine aops_nil ?_
            exact ⟨k + 1, ⟨by omega, fun i hi hi2 hik => (by by_cases e : i = k; (subst e; exact W_ext h3); exact hno i hi hi2 (by omega))⟩, by omega, Weak.of (by (repeat (first | exact .nil _ | refine .cons rfl (by first | exact AV.Imp.refl _ | exact AV.Imp.grow_sl | exact AV.Imp.full_sl | exact AV.Imp.own_sl | exact AV.Imp.nil_sl | exact AV.Imp.nil_full | exact AV.Imp.nil_grow | exact AV.Imp.full_grow | exact AV.Imp.own_grow | exact AV.Imp.of_eq (congrArg AV.int (by omega)) | exact AV.Imp.of_eq (by simp; try omega)) ?_)); done) (by (repeat (first | exact .nil _ | refine .cons (by first | exact .here | exact .there .here | exact .there (.there .here) | exact .there (.there (.there .here)) | exact .there (.there (.there (.there .here))) | exact .there (.there (.there (.there (.there .here)))) | exact .there (.there (.there (.there (.there (.there .here)))))) ?_)); done)⟩
        · kernel_rfl
      · skip
        try simp only [decide_eq_true_eq, decide_eq_false_iff_not, Bool.not_eq_true', Bool.not_eq_false', Bool.not_eq_true, Bool.not_eq_false, List.length_map, Int.ofNat_lt, Int.ofNat_le, Bool.or_eq_true, Bool.and_eq_true, Bool.or_eq_false_iff, Bool.and_eq_false_iff] at h2
        refine awp_exit ?_
        refine awp_seq ?_
        refine awp_region ?_
        refine st_p (fun _ => by exact y_assign (.plain rfl)) rfl ?_
        refine aops_nil ?_
        refine awp_ret ?_
        refine ret1 (.inr rfl) rfl ?_
        exact ⟨AV.bool_congr (by simp; exact List.ext_getElem (by omega) fun i p q => hno i p q (by omega)), rfl⟩

theorem equalI_c (a b : List Int) (ha : a.length ≤ 1000000) : ACalls Try.prog 24 [slI a, slI b] [] (fun v st => v = .bool (decide (a = b)) ∧ st = []) := by
  refine acalls_body Try.func24 (by kernel_rfl) rfl Try.ntmps24 (Nat.le_of_ble_eq_true rfl) ?_
  rw [Try.results24]
  refine awp_seq ?_
  refine awp_region ?_
  refine st_p (fun _ => by exact y_assign (.plain rfl)) rfl ?_
  refine aops_nil ?_
  refine awp_seq ?_
  refine awp_seq ?_
  refine awp_region ?_
  refine st_p (fun _ => by exact y_move (.plain rfl)) rfl ?_
  first | refine st_p (fun _ => by exact y_len (.plain rfl)) rfl ?_ | refine st_p (fun _ => by exact y_lenArr (.plain rfl)) rfl ?_
  refine st_p (fun _ => by exact y_move (.plain rfl)) rfl ?_
  first | refine st_p (fun _ => by exact y_len (.plain rfl)) rfl ?_ | refine st_p (fun _ => by exact y_lenArr (.plain rfl)) rfl ?_
  first | refine st_p (fun _ => by exact y_neq (.plain rfl) (.plain rfl)) rfl ?_ | refine st_p (fun _ => by exact y_neBool (by rfl) (.plain rfl) (.plain rfl)) rfl ?_ | refine st_p (fun _ => by exact y_neStruct (.plain rfl) (.plain rfl) .nil) rfl ?_
  refine aops_nil ?_
  refine awp_cond rfl (fun h1 => ?_) (fun h1 => ?_)
  · skip
    try simp only [decide_eq_true_eq, decide_eq_false_iff_not, Bool.not_eq_true', Bool.not_eq_false', Bool.not_eq_true, Bool.not_eq_false, List.length_map, Int.ofNat_lt, Int.ofNat_le, Bool.or_eq_true, Bool.and_eq_true, Bool.or_eq_false_iff, Bool.and_eq_false_iff] at h1
    refine awp_seq ?_
    refine awp_region ?_
    refine st_p (fun _ => by exact y_assign (.plain rfl)) rfl ?_
    refine aops_nil ?_
    refine awp_ret ?_
    refine ret1 (.inr rfl) rfl ?_
    exact ⟨AV.bool_congr (by simp; intro e; exact h1 (by rw [e])), rfl⟩
  · skip
    try simp only [decide_eq_true_eq, decide_eq_false_iff_not, Bool.not_eq_true', Bool.not_eq_false', Bool.not_eq_true, Bool.not_eq_false, List.length_map, Int.ofNat_lt, Int.ofNat_le, Bool.or_eq_true, Bool.and_eq_true, Bool.or_eq_false_iff, Bool.and_eq_false_iff] at h1
    refine awp_skip ?_
    refine awp_seq ?_
    refine awp_seq ?_
    refine awp_region ?_
    refine st_p (fun _ => by exact y_move (.plain rfl)) rfl ?_
    first | refine st_p (fun _ => by exact y_len (.plain rfl)) rfl ?_ | refine st_p (fun _ => by exact y_lenArr (.plain rfl)) rfl ?_
    refine st_p (fun _ => by exact y_move (.plain rfl)) rfl ?_
    refine aops_nil ?_
    refine awp_block ?_
    refine awp_loop (X := Nat) (fun x => [(0, slI a), (1, slI b), (12, .int ((a.map (fun n => [AV.int n])).length : Int)), (13, .int (x : Int))]) (fun x => []) (fun x => x ≤ a.length ∧ ∀ i (h : i < a.length) (h2 : i < b.length), i < x → a[i] = b[i]) (fun x => a.length - x) 0 ⟨Nat.zero_le _, by omega⟩ ?_ ?_
    · exact Weak.of (by (repeat (first | exact .nil _ | refine .cons rfl (by first | exact AV.Imp.refl _ | exact AV.Imp.grow_sl | exact AV.Imp.full_sl | exact AV.Imp.own_sl | exact AV.Imp.nil_sl | exact AV.Imp.nil_full | exact AV.Imp.nil_grow | exact AV.Imp.full_grow | exact AV.Imp.own_grow | exact AV.Imp.of_eq (congrArg AV.int (by omega)) | exact AV.Imp.of_eq (by simp; try omega)) ?_)); done) (by (repeat (first | exact .nil _ | refine .cons (by first | exact .here | exact .there .here | exact .there (.there .here) | exact .there (.there (.there .here)) | exact .there (.there (.there (.there .here))) | exact .there (.there (.there (.there (.there .here)))) | exact .there (.there (.there (.there (.there (.there .here)))))) ?_)); done)
    · rintro k ⟨hk, hno⟩
      refine awp_seq ?_
      refine awp_region ?_
      refine st_p (fun _ => by exact y_lss (.plain rfl) (.plain rfl)) rfl ?_
      refine aops_nil ?_
      refine awp_seq ?_
      refine awp_cond rfl (fun h2 => ?_) (fun h2 => ?_)
      · skip
        try simp only [decide_eq_true_eq, decide_eq_false_iff_not, Bool.not_eq_true', Bool.not_eq_false', Bool.not_eq_true, Bool.not_eq_false, List.length_map, Int.ofNat_lt, Int.ofNat_le, Bool.or_eq_true, Bool.and_eq_true, Bool.or_eq_false_iff, Bool.and_eq_false_iff] at h2
        refine awp_skip ?_
        refine awp_seq ?_
        refine awp_block ?_
        refine awp_seq ?_
        refine awp_region ?_
        refine st_p (fun _ => by exact y_move (.plain rfl)) rfl ?_
        refine st_p (fun _ => by exact y_assign (.plain rfl)) rfl ?_
        refine aops_nil ?_
        refine awp_seq ?_
        refine awp_any0 (ks := [.free, .free, .free, .free, .free, .free, .free, .free, .free]) (by kernel_rfl) (fun K => ?_) ?_
        · skip
          have hkb : k < b.length := by omega
          refine dr_p (fun _ => by exact y_move (.plain rfl)) rfl ?_
          refine dr_p (fun _ => by exact y_move (.plain rfl)) rfl ?_
          first | refine dr_p (fun _ => by exact y_indexMap (.plain rfl) (.plain rfl) rfl (by refine ⟨?_, ?_⟩; (first | omega | (simp; omega) | (simp at hc; omega) | (simp at hc ⊢; omega) | (simp; done)); rfl)) rfl ?_ | refine dr_p (fun _ => by exact y_indexT (.plain rfl) (.plain rfl) (by first | omega | (simp; omega) | (simp at hc; omega) | (simp at hc ⊢; omega) | (simp; done)) (by first | omega | (simp; omega) | (simp at hc; omega) | (simp at hc ⊢; omega) | (simp; done))) rfl ?_ | refine dr_p (fun _ => by exact y_index (.plain rfl) (.plain rfl) (by omega) rfl) rfl ?_ | refine dr_p (fun _ => by exact y_indexArr (.plain rfl) (.plain rfl) rfl (by first | omega | (simp; omega) | (simp at hc; omega) | (simp at hc ⊢; omega) | (simp; done))) rfl ?_ | refine dr_p (fun _ => by exact y_indexVar (.plain rfl) (.plain rfl) rfl (by first | omega | (simp; omega) | (simp at hc; omega) | (simp at hc ⊢; omega) | (simp; done))) rfl ?_
          first | refine dr_p (fun _ => by exact y_loadE (.plain rfl) rfl) rfl ?_ | refine dr_p (fun _ => by exact y_loadEW (.plain rfl) (by rfl)) rfl ?_ | refine dr_p (fun _ => by exact y_loadEAgg (.plain rfl) (Nat.le_of_ble_eq_true rfl)) rfl ?_ | refine dr_p (fun _ => by exact y_load (.plain rfl) (by first | exact .here | exact .there .here | exact .there (.there .here) | exact .there (.there (.there .here)) | exact .there (.there (.there (.there .here))) | exact .there (.there (.there (.there (.there .here)))) | exact .there (.there (.there (.there (.there (.there .here)))))) rfl) rfl ?_ | refine dr_p (fun _ => by exact y_loadW (.plain rfl) (by first | exact .here | exact .there .here | exact .there (.there .here) | exact .there (.there (.there .here)) | exact .there (.there (.there (.there .here))) | exact .there (.there (.there (.there (.there .here)))) | exact .there (.there (.there (.there (.there (.there .here)))))) (by rfl)) rfl ?_ | refine dr_p (fun _ => by exact y_loadAgg (.plain rfl) (by first | exact .here | exact .there .here | exact .there (.there .here) | exact .there (.there (.there .here)) | exact .there (.there (.there (.there .here))) | exact .there (.there (.there (.there (.there .here)))) | exact .there (.there (.there (.there (.there (.there .here)))))) (Nat.le_of_ble_eq_true rfl)) rfl ?_
          refine dr_p (fun _ => by exact y_move (.plain rfl)) rfl ?_
          refine dr_p (fun _ => by exact y_move (.plain rfl)) rfl ?_
          first | refine dr_p (fun _ => by exact y_indexMap (.plain rfl) (.plain rfl) rfl (by refine ⟨?_, ?_⟩; (first | omega | (simp; omega) | (simp at hc; omega) | (simp at hc ⊢; omega) | (simp; done)); rfl)) rfl ?_ | refine dr_p (fun _ => by exact y_indexT (.plain rfl) (.plain rfl) (by first | omega | (simp; omega) | (simp at hc; omega) | (simp at hc ⊢; omega) | (simp; done)) (by first | omega | (simp; omega) | (simp at hc; omega) | (simp at hc ⊢; omega) | (simp; done))) rfl ?_ | refine dr_p (fun _ => by exact y_index (.plain rfl) (.plain rfl) (by omega) rfl) rfl ?_ | refine dr_p (fun _ => by exact y_indexArr (.plain rfl) (.plain rfl) rfl (by first | omega | (simp; omega) | (simp at hc; omega) | (simp at hc ⊢; omega) | (simp; done))) rfl ?_ | refine dr_p (fun _ => by exact y_indexVar (.plain rfl) (.plain rfl) rfl (by first | omega | (simp; omega) | (simp at hc; omega) | (simp at hc ⊢; omega) | (simp; done))) rfl ?_
          first | refine dr_p (fun _ => by exact y_loadE (.plain rfl) rfl) rfl ?_ | refine dr_p (fun _ => by exact y_loadEW (.plain rfl) (by rfl)) rfl ?_ | refine dr_p (fun _ => by exact y_loadEAgg (.plain rfl) (Nat.le_of_ble_eq_true rfl)) rfl ?_ | refine dr_p (fun _ => by exact y_load (.plain rfl) (by first | exact .here | exact .there .here | exact .there (.there .here) | exact .there (.there (.there .here)) | exact .there (.there (.there (.there .here))) | exact .there (.there (.there (.there (.there .here)))) | exact .there (.there (.there (.there (.there (.there .here)))))) rfl) rfl ?_ | refine dr_p (fun _ => by exact y_loadW (.plain rfl) (by first | exact .here | exact .there .here | exact .there (.there .here) | exact .there (.there (.there .here)) | exact .there (.there (.there (.there .here))) | exact .there (.there (.there (.there (.there .here)))) | exact .there (.there (.there (.there (.there (.there .here)))))) (by rfl)) rfl ?_ | refine dr_p (fun _ => by exact y_loadAgg (.plain rfl) (by first | exact .here | exact .there .here | exact .there (.there .here) | exact .there (.there (.there .here)) | exact .there (.there (.there (.there .here))) | exact .there (.there (.there (.there (.there .here)))) | exact .there (.there (.there (.there (.there (.there .here)))))) (Nat.le_of_ble_eq_true rfl)) rfl ?_
          first | refine dr_p (fun _ => by exact y_neq (.plain rfl) (.plain rfl)) rfl ?_ | refine dr_p (fun _ => by exact y_neBool (by rfl) (.plain rfl) (.plain rfl)) rfl ?_ | refine dr_p (fun _ => by exact y_neStruct (.plain rfl) (.plain rfl) .nil) rfl ?_
          refine dr_nil ⟨rfl, ?_⟩
          refine awp_cond rfl (fun h3 => ?_) (fun h3 => ?_)
          · skip
            try simp only [decide_eq_true_eq, decide_eq_false_iff_not, Bool.not_eq_true', Bool.not_eq_false', Bool.not_eq_true, Bool.not_eq_false, List.length_map, Int.ofNat_lt, Int.ofNat_le, Bool.or_eq_true, Bool.and_eq_true, Bool.or_eq_false_iff, Bool.and_eq_false_iff] at h3
            refine awp_seq ?_
            refine awp_region ?_
            refine st_p (fun _ => by exact y_assign (.plain rfl)) rfl ?_
            refine aops_nil ?_
            refine awp_ret ?_
            refine ret1 (.inr rfl) rfl ?_
            exact ⟨AV.bool_congr (by simp; rintro rfl; exact h3 rfl), rfl⟩
          · skip
            try simp only [decide_eq_true_eq, decide_eq_false_iff_not, Bool.not_eq_true', Bool.not_eq_false', Bool.not_eq_true, Bool.not_eq_false, List.length_map, Int.ofNat_lt, Int.ofNat_le, Bool.or_eq_true, Bool.and_eq_true, Bool.or_eq_false_iff, Bool.and_eq_false_iff] at h3
            refine awp_skip ?_
            refine awp_region ?_
            refine st_p (fun _ => by exact y_add (.plain rfl) (.plain rfl) (by first | omega | (simp; omega) | (simp at hc; omega) | (simp at hc ⊢; omega) | (simp; done))) rfl ?_
            refine st_p (fun _ => by exact y_move (.plain rfl)) rfl ?_
            refine aops_nil ?_
            exact ⟨k + 1, ⟨by omega, fun i hi hi2 hik => (by by_cases e : i = k; (subst e; exact h3); exact hno i hi hi2 (by omega))⟩, by omega, Weak.of (by (repeat (first | exact .nil _ | refine .cons rfl (by first | exact AV.Imp.refl _ | exact AV.Imp.grow_sl | exact AV.Imp.full_sl | exact AV.Imp.own_sl | exact AV.Imp.nil_sl | exact AV.Imp.nil_full | exact AV.Imp.nil_grow | exact AV.Imp.full_grow | exact AV.Imp.own_grow | exact AV.Imp.of_eq (congrArg AV.int (by omega)) | exact AV.Imp.of_eq (by simp; try omega)) ?_)); done) (by (repeat (first | exact .nil _ | refine .cons (by first | exact .here | exact .there .here | exact .there (.there .here) | exact .there (.there (.there .here)) | exact .there (.there (.there (.there .here))) | exact .there (.there (.there (.there (.there .here)))) | exact .there (.there (.there (.there (.there (.there .here)))))) ?_)); done)⟩
        · kernel_rfl
      · skip
        try simp only [decide_eq_true_eq, decide_eq_false_iff_not, Bool.not_eq_true', Bool.not_eq_false', Bool.not_eq_true, Bool.not_eq_false, List.length_map, Int.ofNat_lt, Int.ofNat_le, Bool.or_eq_true, Bool.and_eq_true, Bool.or_eq_false_iff, Bool.and_eq_false_iff] at h2
        refine awp_exit ?_
        refine awp_seq ?_
        refine awp_region ?_
        refine st_p (fun _ => by exact y_assign (.plain rfl)) rfl ?_
        refine aops_nil ?_
        refine awp_ret ?_
        refine ret1 (.inr rfl) rfl ?_
        exact ⟨AV.bool_congr (by simp; exact List.ext_getElem (by omega) fun i p q => hno i p q (by omega)), rfl⟩

theorem removeR_c (l : List W) (t : Int) (hl : l.length ≤ 1000000) : ACalls Try.prog 23 [slW l, .int t] [] (fun v st => v = slW (remove l t) ∧ st = []) := by
  refine acalls_body Try.func23 (by kernel_rfl) rfl Try.ntmps23 (Nat.le_of_ble_eq_true rfl) ?_
  rw [Try.results23]
  refine awp_seq ?_
  refine awp_region ?_
  refine st_p (fun _ => by exact y_assign (.plain rfl)) rfl ?_
  refine aops_nil ?_
  refine awp_seq ?_
  refine awp_region ?_
  refine st_p (fun _ => by exact y_buildSlice .nil rfl (Nat.le_of_ble_eq_true rfl)) rfl ?_
  refine st_p (fun _ => by exact y_assign (.plain rfl)) rfl ?_
  refine aops_nil ?_
  refine awp_seq ?_
  refine awp_seq ?_
  refine awp_region ?_
  refine st_p (fun _ => by exact y_assign (.plain rfl)) rfl ?_
  refine aops_nil ?_
  refine awp_block ?_
  refine awp_loop (X := Nat × Option Nat) (fun x => [(0, slW l), (1, .int t), (5, .grow 5 x.2 ((remove (l.take x.1) t).map encW)), (6, .int (x.1 : Int))]) (fun x => [.tail x.2]) (fun x => x.1 ≤ l.length) (fun x => l.length - x.1) (0, none) (Nat.zero_le _) ?_ ?_
  · exact Weak.trans Weak.tail0 (Weak.of (by (repeat (first | exact .nil _ | refine .cons rfl (by first | exact AV.Imp.refl _ | exact AV.Imp.grow_sl | exact AV.Imp.full_sl | exact AV.Imp.own_sl | exact AV.Imp.nil_sl | exact AV.Imp.nil_full | exact AV.Imp.nil_grow | exact AV.Imp.full_grow | exact AV.Imp.own_grow | exact AV.Imp.of_eq (congrArg AV.int (by omega)) | exact AV.Imp.of_eq (by simp; try omega)) ?_)); done) (by (repeat (first | exact .nil _ | refine .cons (by first | exact .here | exact .there .here | exact .there (.there .here) | exact .there (.there (.there .here)) | exact .there (.there (.there (.there .here))) | exact .there (.there (.there (.there (.there .here)))) | exact .there (.there (.there (.there (.there (.there .here)))))) ?_)); done))
  · rintro ⟨k, tok⟩ hk
    simp only at hk
    refine awp_seq ?_
    refine awp_seq ?_
    refine awp_region ?_
    refine st_p (fun _ => by exact y_move (.plain rfl)) rfl ?_
    refine st_p (fun _ => by exact y_move (.plain rfl)) rfl ?_
    first | refine st_p (fun _ => by exact y_len (.plain rfl)) rfl ?_ | refine st_p (fun _ => by exact y_lenArr (.plain rfl)) rfl ?_
    refine st_p (fun _ => by exact y_lss (.plain rfl) (.plain rfl)) rfl ?_
    refine aops_nil ?_
    refine awp_cond rfl (fun h1 => ?_) (fun h1 => ?_)
    · skip
      try simp only [decide_eq_true_eq, decide_eq_false_iff_not, Bool.not_eq_true', Bool.not_eq_false', Bool.not_eq_true, Bool.not_eq_false, List.length_map, Int.ofNat_lt, Int.ofNat_le, Bool.or_eq_true, Bool.and_eq_true, Bool.or_eq_false_iff, Bool.and_eq_false_iff] at h1
      refine awp_skip ?_
      refine awp_seq ?_
      refine awp_block ?_
      refine awp_seq ?_
      refine awp_region ?_
      refine st_p (fun _ => by exact y_move (.plain rfl)) rfl ?_
      refine st_p (fun _ => by exact y_move (.plain rfl)) rfl ?_
      first | refine st_p (fun _ => by exact y_indexMap (.plain rfl) (.plain rfl) rfl (by refine ⟨?_, ?_⟩; (first | omega | (simp; omega) | (simp at hc; omega) | (simp at hc ⊢; omega) | (simp; done)); rfl)) rfl ?_ | refine st_p (fun _ => by exact y_indexT (.plain rfl) (.plain rfl) (by first | omega | (simp; omega) | (simp at hc; omega) | (simp at hc ⊢; omega) | (simp; done)) (by first | omega | (simp; omega) | (simp at hc; omega) | (simp at hc ⊢; omega) | (simp; done))) rfl ?_ | refine st_p (fun _ => by exact y_index (.plain rfl) (.plain rfl) (by omega) rfl) rfl ?_ | refine st_p (fun _ => by exact y_indexArr (.plain rfl) (.plain rfl) rfl (by first | omega | (simp; omega) | (simp at hc; omega) | (simp at hc ⊢; omega) | (simp; done))) rfl ?_ | refine st_p (fun _ => by exact y_indexVar (.plain rfl) (.plain rfl) rfl (by first | omega | (simp; omega) | (simp at hc; omega) | (simp at hc ⊢; omega) | (simp; done))) rfl ?_
      first | refine st_p (fun _ => by exact y_fieldPtr (.plain rfl)) rfl ?_ | refine st_p (fun _ => by exact y_fieldE (.plain rfl) (Nat.le_of_ble_eq_true rfl)) rfl ?_
      first | refine st_p (fun _ => by exact y_loadE (.plain rfl) rfl) rfl ?_ | refine st_p (fun _ => by exact y_loadEW (.plain rfl) (by rfl)) rfl ?_ | refine st_p (fun _ => by exact y_loadEAgg (.plain rfl) (Nat.le_of_ble_eq_true rfl)) rfl ?_ | refine st_p (fun _ => by exact y_load (.plain rfl) (by first | exact .here | exact .there .here | exact .there (.there .here) | exact .there (.there (.there .here)) | exact .there (.there (.there (.there .here))) | exact .there (.there (.there (.there (.there .here)))) | exact .there (.there (.there (.there (.there (.there .here)))))) rfl) rfl ?_ | refine st_p (fun _ => by exact y_loadW (.plain rfl) (by first | exact .here | exact .there .here | exact .there (.there .here) | exact .there (.there (.there .here)) | exact .there (.there (.there (.there .here))) | exact .there (.there (.there (.there (.there .here)))) | exact .there (.there (.there (.there (.there (.there .here)))))) (by rfl)) rfl ?_ | refine st_p (fun _ => by exact y_loadAgg (.plain rfl) (by first | exact .here | exact .there .here | exact .there (.there .here) | exact .there (.there (.there .here)) | exact .there (.there (.there (.there .here))) | exact .there (.there (.there (.there (.there .here)))) | exact .there (.there (.there (.there (.there (.there .here)))))) (Nat.le_of_ble_eq_true rfl)) rfl ?_
      refine st_p (fun _ => by exact y_move (.plain rfl)) rfl ?_
      first | refine st_p (fun _ => by exact y_neq (.plain rfl) (.plain rfl)) rfl ?_ | refine st_p (fun _ => by exact y_neBool (by rfl) (.plain rfl) (.plain rfl)) rfl ?_ | refine st_p (fun _ => by exact y_neStruct (.plain rfl) (.plain rfl) .nil) rfl ?_
      refine aops_nil ?_
      refine awp_cond rfl (fun h2 => ?_) (fun h2 => ?_)
      · skip
        try simp only [decide_eq_true_eq, decide_eq_false_iff_not, Bool.not_eq_true', Bool.not_eq_false', Bool.not_eq_true, Bool.not_eq_false, List.length_map, Int.ofNat_lt, Int.ofNat_le, Bool.or_eq_true, Bool.and_eq_true, Bool.or_eq_false_iff, Bool.and_eq_false_iff] at h2
        refine awp_region ?_
        have hkl := remove_len (l.take k) t
        rw [List.length_take] at hkl
        refine st_p (fun _ => by exact y_move (.plain rfl)) rfl ?_
        refine st_p (fun _ => by exact y_move (.plain rfl)) rfl ?_
        refine st_p (fun _ => by exact y_move (.plain rfl)) rfl ?_
        first | refine st_p (fun _ => by exact y_indexMap (.plain rfl) (.plain rfl) rfl (by refine ⟨?_, ?_⟩; (first | omega | (simp; omega) | (simp at hc; omega) | (simp at hc ⊢; omega) | (simp; done)); rfl)) rfl ?_ | refine st_p (fun _ => by exact y_indexT (.plain rfl) (.plain rfl) (by first | omega | (simp; omega) | (simp at hc; omega) | (simp at hc ⊢; omega) | (simp; done)) (by first | omega | (simp; omega) | (simp at hc; omega) | (simp at hc ⊢; omega) | (simp; done))) rfl ?_ | refine st_p (fun _ => by exact y_index (.plain rfl) (.plain rfl) (by omega) rfl) rfl ?_ | refine st_p (fun _ => by exact y_indexArr (.plain rfl) (.plain rfl) rfl (by first | omega | (simp; omega) | (simp at hc; omega) | (simp at hc ⊢; omega) | (simp; done))) rfl ?_ | refine st_p (fun _ => by exact y_indexVar (.plain rfl) (.plain rfl) rfl (by first | omega | (simp; omega) | (simp at hc; omega) | (simp at hc ⊢; omega) | (simp; done))) rfl ?_
        first | refine st_p (fun _ => by exact y_loadE (.plain rfl) rfl) rfl ?_ | refine st_p (fun _ => by exact y_loadEW (.plain rfl) (by rfl)) rfl ?_ | refine st_p (fun _ => by exact y_loadEAgg (.plain rfl) (Nat.le_of_ble_eq_true rfl)) rfl ?_ | refine st_p (fun _ => by exact y_load (.plain rfl) (by first | exact .here | exact .there .here | exact .there (.there .here) | exact .there (.there (.there .here)) | exact .there (.there (.there (.there .here))) | exact .there (.there (.there (.there (.there .here)))) | exact .there (.there (.there (.there (.there (.there .here)))))) rfl) rfl ?_ | refine st_p (fun _ => by exact y_loadW (.plain rfl) (by first | exact .here | exact .there .here | exact .there (.there .here) | exact .there (.there (.there .here)) | exact .there (.there (.there (.there .here))) | exact .there (.there (.there (.there (.there .here)))) | exact .there (.there (.there (.there (.there (.there .here)))))) (by rfl)) rfl ?_ | refine st_p (fun _ => by exact y_loadAgg (.plain rfl) (by first | exact .here | exact .there .here | exact .there (.there .here) | exact .there (.there (.there .here)) | exact .there (.there (.there (.there .here))) | exact .there (.there (.there (.there (.there .here)))) | exact .there (.there (.there (.there (.there (.there .here)))))) (Nat.le_of_ble_eq_true rfl)) rfl ?_
        refine st_p (fun _ => by exact y_buildSlice (.cons (.plain rfl) inferInstance (by rfl) .nil) rfl (Nat.le_of_ble_eq_true rfl)) rfl ?_
        first | refine st_append (by rfl) (.plain rfl) (.plain rfl) (by simp; try omega) rfl fun t1 => ?_ | refine st_appendT (by rfl) (.plain rfl) (.plain rfl) (by first | exact .here | exact .there .here | exact .there (.there .here) | exact .there (.there (.there .here)) | exact .there (.there (.there (.there .here))) | exact .there (.there (.there (.there (.there .here)))) | exact .there (.there (.there (.there (.there (.there .here)))))) (by simp; try omega) rfl fun t1 => ?_ | refine st_append0 (by rfl) (.plain rfl) (.plain rfl) (by simp; try omega) rfl fun t1 => ?_ | refine st_append0 (by rfl) (.imp (.plain rfl) AV.Imp.nil_grow) (.plain rfl) (by simp; try omega) rfl fun t1 => ?_ | refine st_append0 (by rfl) (.imp (.plain rfl) AV.Imp.full_grow) (.plain rfl) (by simp; try omega) rfl fun t1 => ?_ | refine st_appendT (by rfl) (.imp (.plain rfl) AV.Imp.own_grow) (.plain rfl) (by first | exact .here | exact .there .here | exact .there (.there .here) | exact .there (.there (.there .here)) | exact .there (.there (.there (.there .here))) | exact .there (.there (.there (.there (.there .here)))) | exact .there (.there (.there (.there (.there (.there .here)))))) (by simp; try omega) rfl fun t1 => ?_
        refine st_p (fun _ => by exact y_assign (.plain rfl)) rfl ?_
        refine aops_nil ?_
        refine awp_region ?_
        refine st_p (fun _ => by exact y_move (.plain rfl)) rfl ?_
        refine st_p (fun _ => by exact y_add (.plain rfl) (.plain rfl) (by first | omega | (simp; omega) | (simp at hc; omega) | (simp at hc ⊢; omega) | (simp; done))) rfl ?_
        refine st_p (fun _ => by exact y_assign (.plain rfl)) rfl ?_
        refine aops_nil ?_
        first | exact ⟨(k + 1, t1), by show k + 1 ≤ _; omega, by show l.length - (k + 1) < l.length - k; omega, Weak.of (by (repeat (first | exact .nil _ | refine .cons rfl (by first | exact AV.Imp.refl _ | exact AV.Imp.of_eq (by rw [remove_t l t k h1 h2, List.map_append]; rfl)) ?_ | refine .cons rfl (by first | exact AV.Imp.refl _ | exact AV.Imp.grow_sl | exact AV.Imp.full_sl | exact AV.Imp.own_sl | exact AV.Imp.nil_sl | exact AV.Imp.nil_full | exact AV.Imp.nil_grow | exact AV.Imp.full_grow | exact AV.Imp.own_grow | exact AV.Imp.of_eq (congrArg AV.int (by omega)) | exact AV.Imp.of_eq (by simp; try omega)) ?_)); done) (by (repeat (first | exact .nil _ | refine .cons (by first | exact .here | exact .there .here | exact .there (.there .here) | exact .there (.there (.there .here)) | exact .there (.there (.there (.there .here))) | exact .there (.there (.there (.there (.there .here)))) | exact .there (.there (.there (.there (.there (.there .here)))))) ?_)); done)⟩ | exact ⟨(k + 1, tok), by show k + 1 ≤ _; omega, by show l.length - (k + 1) < l.length - k; omega, Weak.of (by (repeat (first | exact .nil _ | refine .cons rfl (by first | exact AV.Imp.refl _ | exact AV.Imp.of_eq (by rw [remove_f l t k h1 h2])) ?_ | refine .cons rfl (by first | exact AV.Imp.refl _ | exact AV.Imp.grow_sl | exact AV.Imp.full_sl | exact AV.Imp.own_sl | exact AV.Imp.nil_sl | exact AV.Imp.nil_full | exact AV.Imp.nil_grow | exact AV.Imp.full_grow | exact AV.Imp.own_grow | exact AV.Imp.of_eq (congrArg AV.int (by omega)) | exact AV.Imp.of_eq (by simp; try omega)) ?_)); done) (by (repeat (first | exact .nil _ | refine .cons (by first | exact .here | exact .there .here | exact .there (.there .here) | exact .there (.there (.there .here)) | exact .there (.there (.there (.there .here))) | exact .there (.there (.there (.there (.there .here)))) | exact .there (.there (.there (.there (.there (.there .here)))))) ?_)); done)⟩
      · skip
        try simp only [decide_eq_true_eq, decide_eq_false_iff_not, Bool.not_eq_true', Bool.not_eq_false', Bool.not_eq_true, Bool.not_eq_false, List.length_map, Int.ofNat_lt, Int.ofNat_le, Bool.or_eq_true, Bool.and_eq_true, Bool.or_eq_false_iff, Bool.and_eq_false_iff] at h2
        refine awp_skip ?_
        refine awp_region ?_
        refine st_p (fun _ => by exact y_move (.plain rfl)) rfl ?_
        refine st_p (fun _ => by exact y_add (.plain rfl) (.plain rfl) (by first | omega | (simp; omega) | (simp at hc; omega) | (simp at hc ⊢; omega) | (simp; done))) rfl ?_
        refine st_p (fun _ => by exact y_assign (.plain rfl)) rfl ?_
        refine aops_nil ?_
        first | exact ⟨(k + 1, t1), by show k + 1 ≤ _; omega, by show l.length - (k + 1) < l.length - k; omega, Weak.of (by (repeat (first | exact .nil _ | refine .cons rfl (by first | exact AV.Imp.refl _ | exact AV.Imp.of_eq (by rw [remove_t l t k h1 h2, List.map_append]; rfl)) ?_ | refine .cons rfl (by first | exact AV.Imp.refl _ | exact AV.Imp.grow_sl | exact AV.Imp.full_sl | exact AV.Imp.own_sl | exact AV.Imp.nil_sl | exact AV.Imp.nil_full | exact AV.Imp.nil_grow | exact AV.Imp.full_grow | exact AV.Imp.own_grow | exact AV.Imp.of_eq (congrArg AV.int (by omega)) | exact AV.Imp.of_eq (by simp; try omega)) ?_)); done) (by (repeat (first | exact .nil _ | refine .cons (by first | exact .here | exact .there .here | exact .there (.there .here) | exact .there (.there (.there .here)) | exact .there (.there (.there (.there .here))) | exact .there (.there (.there (.there (.there .here)))) | exact .there (.there (.there (.there (.there (.there .here)))))) ?_)); done)⟩ | exact ⟨(k + 1, tok), by show k + 1 ≤ _; omega, by show l.length - (k + 1) < l.length - k; omega, Weak.of (by (repeat (first | exact .nil _ | refine .cons rfl (by first | exact AV.Imp.refl _ | exact AV.Imp.of_eq (by rw [remove_f l t k h1 h2])) ?_ | refine .cons rfl (by first | exact AV.Imp.refl _ | exact AV.Imp.grow_sl | exact AV.Imp.full_sl | exact AV.Imp.own_sl | exact AV.Imp.nil_sl | exact AV.Imp.nil_full | exact AV.Imp.nil_grow | exact AV.Imp.full_grow | exact AV.Imp.own_grow | exact AV.Imp.of_eq (congrArg AV.int (by omega)) | exact AV.Imp.of_eq (by simp; try omega)) ?_)); done) (by (repeat (first | exact .nil _ | refine .cons (by first | exact .here | exact .there .here | exact .there (.there .here) | exact .there (.there (.there .here)) | exact .there (.there (.there (.there .here))) | exact .there (.there (.there (.there (.there .here)))) | exact .there (.there (.there (.there (.there (.there .here)))))) ?_)); done)⟩
    · skip
      try simp only [decide_eq_true_eq, decide_eq_false_iff_not, Bool.not_eq_true', Bool.not_eq_false', Bool.not_eq_true, Bool.not_eq_false, List.length_map, Int.ofNat_lt, Int.ofNat_le, Bool.or_eq_true, Bool.and_eq_true, Bool.or_eq_false_iff, Bool.and_eq_false_iff] at h1
      refine awp_exit ?_
      refine awp_seq ?_
      refine awp_region ?_
      refine st_p (fun _ => by exact y_move (.plain rfl)) rfl ?_
      refine st_p (fun _ => by exact y_assign (.plain rfl)) rfl ?_
      refine aops_nil ?_
      refine awp_ret ?_
      obtain rfl : k = l.length := by omega
      exact retG (.inr rfl) (.cons (.tmp rfl) .nil) (VShift.trans (VShift.sub AV.Imp.grow_sl (List.nil_sublist _)) (VShift.of (AV.Imp.of_eq (by rw [List.take_length])) (ItLe.refl _))) ⟨rfl, rfl⟩

theorem remove_c (l : List W) (t : Int) (hl : l.length ≤ 1000000) : ACalls Try.prog 22 [slW l, .int t] [] (fun v st => v = slW (remove l t) ∧ st = []) := by
  refine acalls_body Try.func22 (by kernel_rfl) rfl Try.ntmps22 (Nat.le_of_ble_eq_true rfl) ?_
  rw [Try.results22]
  refine awp_seq ?_
  refine awp_region ?_
  refine st_n (fun _ => by exact y_box (.plain rfl)) rfl fun n1 => ?_
  refine st_p (fun _ => by exact y_assign (.plain rfl)) rfl ?_
  refine aops_nil ?_
  refine awp_seq ?_
  refine awp_region ?_
  refine st_p (fun _ => by exact y_move (.plain rfl)) rfl ?_
  refine st_p (fun _ => by exact y_makeFunc (.cons (.plain rfl) .nil)) rfl ?_
  refine aops_call (blt_lt rfl) (.plain rfl) (.cons (.plain rfl) (.cons (.plain rfl) .nil)) ((filter_c l hl 46 [.ptr n1 0] (fun k => !decide ((l.getD k default).task = t)) (fun _ st => st = [.cells n1 [.int t]]) _ rfl ?_).mono ?_)
  · rintro k hk st rfl
    have := removeK_c n1 t l[k]
    simpa [List.getD, hk] using this
  rintro v st ⟨rfl, rfl⟩
  refine st_p (fun _ => by exact y_assign (.plain rfl)) rfl ?_
  refine aops_nil ?_
  refine awp_ret ?_
  refine ret1 (.inr rfl) rfl ?_
  exact ⟨by rw [kp_filter l (fun w => !decide (w.task = t))]; rfl, rfl⟩

abbrev GI (s u a o : Nat) (any : Bool) (x : G) (tok : Option Nat) : List Aw.Item := [.cells s [.bool x.s], .cells u [.int x.u], .cells a [.bool any], .cells o [.grow 5 tok (x.o.map encW)], .tail tok]

theorem grantK_c (s u a o : Nat) (tok : Option Nat) (any : Bool) (x : G) (w : W) (hu : -9223372036854775808 ≤ x.u ∧ x.u ≤ 9223372036854775807) (hlen : x.o.length ≤ 1000000) : ACalls Try.prog 44 [avW w, .ptr s 0, .ptr u 0, .ptr a 0, .ptr o 0] (GI s u a o any x tok) (fun v st => v = .bool (gcan x w) ∧ ∃ tok', st = GI s u a o any (gstep any x w) tok') := by
  refine acalls_body Try.func44 (by kernel_rfl) rfl Try.ntmps44 (Nat.le_of_ble_eq_true rfl) ?_
  rw [Try.results44]
  refine awp_seq ?_
  refine awp_region ?_
  refine st_n (fun _ => by exact y_box (.plain rfl)) rfl fun n1 => ?_
  refine st_p (fun _ => by exact y_assign (.plain rfl)) rfl ?_
  refine aops_nil ?_
  refine awp_seq ?_
  refine awp_seq ?_
  refine awp_region ?_
  first | refine st_p (fun _ => by exact y_loadE (.plain rfl) rfl) rfl ?_ | refine st_p (fun _ => by exact y_loadEW (.plain rfl) (by rfl)) rfl ?_ | refine st_p (fun _ => by exact y_loadEAgg (.plain rfl) (Nat.le_of_ble_eq_true rfl)) rfl ?_ | refine st_p (fun _ => by exact y_load (.plain rfl) (by first | exact .here | exact .there .here | exact .there (.there .here) | exact .there (.there (.there .here)) | exact .there (.there (.there (.there .here))) | exact .there (.there (.there (.there (.there .here)))) | exact .there (.there (.there (.there (.there (.there .here)))))) rfl) rfl ?_ | refine st_p (fun _ => by exact y_loadW (.plain rfl) (by first | exact .here | exact .there .here | exact .there (.there .here) | exact .there (.there (.there .here)) | exact .there (.there (.there (.there .here))) | exact .there (.there (.there (.there (.there .here)))) | exact .there (.there (.there (.there (.there (.there .here)))))) (by rfl)) rfl ?_ | refine st_p (fun _ => by exact y_loadAgg (.plain rfl) (by first | exact .here | exact .there .here | exact .there (.there .here) | exact .there (.there (.there .here)) | exact .there (.there (.there (.there .here))) | exact .there (.there (.there (.there (.there .here)))) | exact .there (.there (.there (.there (.there (.there .here)))))) (Nat.le_of_ble_eq_true rfl)) rfl ?_
  refine st_p (fun _ => by exact y_not (.plain rfl)) rfl ?_
  refine st_p (fun _ => by exact y_move (.plain rfl)) rfl ?_
  first | refine st_g rfl rfl rfl (by first | exact Says.bool _ _ | exact Says.opt _ _ _) (fun hc _ => by exact y_fieldPtr (.plain rfl)) rfl ?_ | refine st_g rfl rfl rfl (by first | exact Says.bool _ _ | exact Says.opt _ _ _) (fun hc _ => by exact y_fieldE (.plain rfl) (Nat.le_of_ble_eq_true rfl)) rfl ?_
  first | refine st_g rfl rfl rfl (by first | exact Says.bool _ _ | exact Says.opt _ _ _) (fun hc _ => by exact y_loadE (.opt rfl hc) rfl) rfl ?_ | refine st_g rfl rfl rfl (by first | exact Says.bool _ _ | exact Says.opt _ _ _) (fun hc _ => by exact y_loadEW (.opt rfl hc) (by rfl)) rfl ?_ | refine st_g rfl rfl rfl (by first | exact Says.bool _ _ | exact Says.opt _ _ _) (fun hc _ => by exact y_loadEAgg (.opt rfl hc) (Nat.le_of_ble_eq_true rfl)) rfl ?_ | refine st_g rfl rfl rfl (by first | exact Says.bool _ _ | exact Says.opt _ _ _) (fun hc _ => by exact y_load (.opt rfl hc) (by first | exact .here | exact .there .here | exact .there (.there .here) | exact .there (.there (.there .here)) | exact .there (.there (.there (.there .here))) | exact .there (.there (.there (.there (.there .here)))) | exact .there (.there (.there (.there (.there (.there .here)))))) rfl) rfl ?_ | refine st_g rfl rfl rfl (by first | exact Says.bool _ _ | exact Says.opt _ _ _) (fun hc _ => by exact y_loadW (.opt rfl hc) (by first | exact .here | exact .there .here | exact .there (.there .here) | exact .there (.there (.there .here)) | exact .there (.there (.there (.there .here))) | exact .there (.there (.there (.there (.there .here)))) | exact .there (.there (.there (.there (.there (.there .here)))))) (by rfl)) rfl ?_ | refine st_g rfl rfl rfl (by first | exact Says.bool _ _ | exact Says.opt _ _ _) (fun hc _ => by exact y_loadAgg (.opt rfl hc) (by first | exact .here | exact .there .here | exact .there (.there .here) | exact .there (.there (.there .here)) | exact .there (.there (.there (.there .here))) | exact .there (.there (.there (.there (.there .here)))) | exact .there (.there (.there (.there (.there (.there .here)))))) (Nat.le_of_ble_eq_true rfl)) rfl ?_
  refine st_g rfl rfl rfl (by first | exact Says.bool _ _ | exact Says.opt _ _ _) (fun hc _ => by exact y_geq (.opt rfl hc) (.plain rfl)) rfl ?_
  refine st_p (fun _ => by exact y_and (.plain rfl) rfl rfl) rfl ?_
  refine st_p (fun _ => by exact y_move (.plain rfl)) rfl ?_
  first | refine st_g rfl rfl rfl (by first | exact Says.bool _ _ | exact Says.opt _ _ _) (fun hc _ => by exact y_fieldPtr (.plain rfl)) rfl ?_ | refine st_g rfl rfl rfl (by first | exact Says.bool _ _ | exact Says.opt _ _ _) (fun hc _ => by exact y_fieldE (.plain rfl) (Nat.le_of_ble_eq_true rfl)) rfl ?_
  first | refine st_g rfl rfl rfl (by first | exact Says.bool _ _ | exact Says.opt _ _ _) (fun hc _ => by exact y_loadE (.opt rfl hc) rfl) rfl ?_ | refine st_g rfl rfl rfl (by first | exact Says.bool _ _ | exact Says.opt _ _ _) (fun hc _ => by exact y_loadEW (.opt rfl hc) (by rfl)) rfl ?_ | refine st_g rfl rfl rfl (by first | exact Says.bool _ _ | exact Says.opt _ _ _) (fun hc _ => by exact y_loadEAgg (.opt rfl hc) (Nat.le_of_ble_eq_true rfl)) rfl ?_ | refine st_g rfl rfl rfl (by first | exact Says.bool _ _ | exact Says.opt _ _ _) (fun hc _ => by exact y_load (.opt rfl hc) (by first | exact .here | exact .there .here | exact .there (.there .here) | exact .there (.there (.there .here)) | exact .there (.there (.there (.there .here))) | exact .there (.there (.there (.there (.there .here)))) | exact .there (.there (.there (.there (.there (.there .here)))))) rfl) rfl ?_ | refine st_g rfl rfl rfl (by first | exact Says.bool _ _ | exact Says.opt _ _ _) (fun hc _ => by exact y_loadW (.opt rfl hc) (by first | exact .here | exact .there .here | exact .there (.there .here) | exact .there (.there (.there .here)) | exact .there (.there (.there (.there .here))) | exact .there (.there (.there (.there (.there .here)))) | exact .there (.there (.there (.there (.there (.there .here)))))) (by rfl)) rfl ?_ | refine st_g rfl rfl rfl (by first | exact Says.bool _ _ | exact Says.opt _ _ _) (fun hc _ => by exact y_loadAgg (.opt rfl hc) (by first | exact .here | exact .there .here | exact .there (.there .here) | exact .there (.there (.there .here)) | exact .there (.there (.there (.there .here))) | exact .there (.there (.there (.there (.there .here)))) | exact .there (.there (.there (.there (.there (.there .here)))))) (Nat.le_of_ble_eq_true rfl)) rfl ?_
  first | refine st_g rfl rfl rfl (by first | exact Says.bool _ _ | exact Says.opt _ _ _) (fun hc _ => by exact y_loadE (.plain rfl) rfl) rfl ?_ | refine st_g rfl rfl rfl (by first | exact Says.bool _ _ | exact Says.opt _ _ _) (fun hc _ => by exact y_loadEW (.plain rfl) (by rfl)) rfl ?_ | refine st_g rfl rfl rfl (by first | exact Says.bool _ _ | exact Says.opt _ _ _) (fun hc _ => by exact y_loadEAgg (.plain rfl) (Nat.le_of_ble_eq_true rfl)) rfl ?_ | refine st_g rfl rfl rfl (by first | exact Says.bool _ _ | exact Says.opt _ _ _) (fun hc _ => by exact y_load (.plain rfl) (by first | exact .here | exact .there .here | exact .there (.there .here) | exact .there (.there (.there .here)) | exact .there (.there (.there (.there .here))) | exact .there (.there (.there (.there (.there .here)))) | exact .there (.there (.there (.there (.there (.there .here)))))) rfl) rfl ?_ | refine st_g rfl rfl rfl (by first | exact Says.bool _ _ | exact Says.opt _ _ _) (fun hc _ => by exact y_loadW (.plain rfl) (by first | exact .here | exact .there .here | exact .there (.there .here) | exact .there (.there (.there .here)) | exact .there (.there (.there (.there .here))) | exact .there (.there (.there (.there (.there .here)))) | exact .there (.there (.there (.there (.there (.there .here)))))) (by rfl)) rfl ?_ | refine st_g rfl rfl rfl (by first | exact Says.bool _ _ | exact Says.opt _ _ _) (fun hc _ => by exact y_loadAgg (.plain rfl) (by first | exact .here | exact .there .here | exact .there (.there .here) | exact .there (.there (.there .here)) | exact .there (.there (.there (.there .here))) | exact .there (.there (.there (.there (.there .here)))) | exact .there (.there (.there (.there (.there (.there .here)))))) (Nat.le_of_ble_eq_true rfl)) rfl ?_
  refine st_g rfl rfl rfl (by first | exact Says.bool _ _ | exact Says.opt _ _ _) (fun hc _ => by exact y_leq (.opt rfl hc) (.opt rfl hc)) rfl ?_
  refine st_p (fun _ => by exact y_and (.plain rfl) rfl rfl) rfl ?_
  refine aops_nil ?_
  refine awp_cond rfl (fun h1 => ?_) (fun h1 => ?_)
  · skip
    try simp only [decide_eq_true_eq, decide_eq_false_iff_not, Bool.not_eq_true', Bool.not_eq_false', Bool.not_eq_true, Bool.not_eq_false, List.length_map, Int.ofNat_lt, Int.ofNat_le, Bool.or_eq_true, Bool.and_eq_true, Bool.or_eq_false_iff, Bool.and_eq_false_iff] at h1
    refine awp_seq ?_
    refine awp_region ?_
    first | refine st_p (fun _ => by exact y_loadE (.plain rfl) rfl) rfl ?_ | refine st_p (fun _ => by exact y_loadEW (.plain rfl) (by rfl)) rfl ?_ | refine st_p (fun _ => by exact y_loadEAgg (.plain rfl) (Nat.le_of_ble_eq_true rfl)) rfl ?_ | refine st_p (fun _ => by exact y_load (.plain rfl) (by first | exact .here | exact .there .here | exact .there (.there .here) | exact .there (.there (.there .here)) | exact .there (.there (.there (.there .here))) | exact .there (.there (.there (.there (.there .here)))) | exact .there (.there (.there (.there (.there (.there .here)))))) rfl) rfl ?_ | refine st_p (fun _ => by exact y_loadW (.plain rfl) (by first | exact .here | exact .there .here | exact .there (.there .here) | exact .there (.there (.there .here)) | exact .there (.there (.there (.there .here))) | exact .there (.there (.there (.there (.there .here)))) | exact .there (.there (.there (.there (.there (.there .here)))))) (by rfl)) rfl ?_ | refine st_p (fun _ => by exact y_loadAgg (.plain rfl) (by first | exact .here | exact .there .here | exact .there (.there .here) | exact .there (.there (.there .here)) | exact .there (.there (.there (.there .here))) | exact .there (.there (.there (.there (.there .here)))) | exact .there (.there (.there (.there (.there (.there .here)))))) (Nat.le_of_ble_eq_true rfl)) rfl ?_
    first | refine st_p (fun _ => by exact y_fieldPtr (.plain rfl)) rfl ?_ | refine st_p (fun _ => by exact y_fieldE (.plain rfl) (Nat.le_of_ble_eq_true rfl)) rfl ?_
    first | refine st_p (fun _ => by exact y_loadE (.plain rfl) rfl) rfl ?_ | refine st_p (fun _ => by exact y_loadEW (.plain rfl) (by rfl)) rfl ?_ | refine st_p (fun _ => by exact y_loadEAgg (.plain rfl) (Nat.le_of_ble_eq_true rfl)) rfl ?_ | refine st_p (fun _ => by exact y_load (.plain rfl) (by first | exact .here | exact .there .here | exact .there (.there .here) | exact .there (.there (.there .here)) | exact .there (.there (.there (.there .here))) | exact .there (.there (.there (.there (.there .here)))) | exact .there (.there (.there (.there (.there (.there .here)))))) rfl) rfl ?_ | refine st_p (fun _ => by exact y_loadW (.plain rfl) (by first | exact .here | exact .there .here | exact .there (.there .here) | exact .there (.there (.there .here)) | exact .there (.there (.there (.there .here))) | exact .there (.there (.there (.there (.there .here)))) | exact .there (.there (.there (.there (.there (.there .here)))))) (by rfl)) rfl ?_ | refine st_p (fun _ => by exact y_loadAgg (.plain rfl) (by first | exact .here | exact .there .here | exact .there (.there .here) | exact .there (.there (.there .here)) | exact .there (.there (.there (.there .here))) | exact .there (.there (.there (.there (.there .here)))) | exact .there (.there (.there (.there (.there (.there .here)))))) (Nat.le_of_ble_eq_true rfl)) rfl ?_
    refine st_p (fun _ => by exact y_sub (.plain rfl) (.plain rfl) (by first | omega | (simp; omega) | (simp at hc; omega) | (simp at hc ⊢; omega) | (simp; done))) rfl ?_
    first | refine st_s (fun _ => by exact y_storeW (by rfl) rfl (.plain rfl) (.plain rfl) (by first | exact .here | exact .there .here | exact .there (.there .here) | exact .there (.there (.there .here)) | exact .there (.there (.there (.there .here))) | exact .there (.there (.there (.there (.there .here)))) | exact .there (.there (.there (.there (.there (.there .here)))))) (by rfl)) ?_ | refine st_s (fun _ => by exact y_store (by rfl) rfl (.plain rfl) (.plain rfl) (by first | exact .here | exact .there .here | exact .there (.there .here) | exact .there (.there (.there .here)) | exact .there (.there (.there (.there .here))) | exact .there (.there (.there (.there (.there .here)))) | exact .there (.there (.there (.there (.there (.there .here)))))) (Nat.le_of_ble_eq_true rfl)) ?_
    refine aops_nil ?_
    refine awp_seq ?_
    refine awp_region ?_
    refine st_p (fun _ => by exact y_assign (.plain rfl)) rfl ?_
    refine aops_nil ?_
    refine awp_ret ?_
    have hg : gcan x w = true := by simp [gcan, h1.1.1, h1.1.2, h1.2]
    exact retG (.inr rfl) (.cons (.tmp rfl) .nil) (VShift.of (st' := GI s u a o any (gstep any x w) tok) (AV.Imp.refl _) (by rw [gstep_t any x w hg]; (repeat (first | exact .nil _ | refine .cons (by first | exact .here | exact .there .here | exact .there (.there .here) | exact .there (.there (.there .here)) | exact .there (.there (.there (.there .here))) | exact .there (.there (.there (.there (.there .here)))) | exact .there (.there (.there (.there (.there (.there .here)))))) ?_)); done)) ⟨by rw [hg]; rfl, tok, rfl⟩
  · skip
    try simp only [decide_eq_true_eq, decide_eq_false_iff_not, Bool.not_eq_true', Bool.not_eq_false', Bool.not_eq_true, Bool.not_eq_false, List.length_map, Int.ofNat_lt, Int.ofNat_le, Bool.or_eq_true, Bool.and_eq_true, Bool.or_eq_false_iff, Bool.and_eq_false_iff] at h1
    refine awp_skip ?_
    refine awp_seq ?_
    refine awp_region ?_
    first | refine st_p (fun _ => by exact y_loadE (.plain rfl) rfl) rfl ?_ | refine st_p (fun _ => by exact y_loadEW (.plain rfl) (by rfl)) rfl ?_ | refine st_p (fun _ => by exact y_loadEAgg (.plain rfl) (Nat.le_of_ble_eq_true rfl)) rfl ?_ | refine st_p (fun _ => by exact y_load (.plain rfl) (by first | exact .here | exact .there .here | exact .there (.there .here) | exact .there (.there (.there .here)) | exact .there (.there (.there (.there .here))) | exact .there (.there (.there (.there (.there .here)))) | exact .there (.there (.there (.there (.there (.there .here)))))) rfl) rfl ?_ | refine st_p (fun _ => by exact y_loadW (.plain rfl) (by first | exact .here | exact .there .here | exact .there (.there .here) | exact .there (.there (.there .here)) | exact .there (.there (.there (.there .here))) | exact .there (.there (.there (.there (.there .here)))) | exact .there (.there (.there (.there (.there (.there .here)))))) (by rfl)) rfl ?_ | refine st_p (fun _ => by exact y_loadAgg (.plain rfl) (by first | exact .here | exact .there .here | exact .there (.there .here) | exact .there (.there (.there .here)) | exact .there (.there (.there (.there .here))) | exact .there (.there (.there (.there (.there .here)))) | exact .there (.there (.there (.there (.there (.there .here)))))) (Nat.le_of_ble_eq_true rfl)) rfl ?_
    refine st_p (fun _ => by exact y_move (.plain rfl)) rfl ?_
    first | refine st_g rfl rfl rfl (by first | exact Says.bool _ _ | exact Says.opt _ _ _) (fun hc _ => by exact y_loadE (.plain rfl) rfl) rfl ?_ | refine st_g rfl rfl rfl (by first | exact Says.bool _ _ | exact Says.opt _ _ _) (fun hc _ => by exact y_loadEW (.plain rfl) (by rfl)) rfl ?_ | refine st_g rfl rfl rfl (by first | exact Says.bool _ _ | exact Says.opt _ _ _) (fun hc _ => by exact y_loadEAgg (.plain rfl) (Nat.le_of_ble_eq_true rfl)) rfl ?_ | refine st_g rfl rfl rfl (by first | exact Says.bool _ _ | exact Says.opt _ _ _) (fun hc _ => by exact y_load (.plain rfl) (by first | exact .here | exact .there .here | exact .there (.there .here) | exact .there (.there (.there .here)) | exact .there (.there (.there (.there .here))) | exact .there (.there (.there (.there (.there .here)))) | exact .there (.there (.there (.there (.there (.there .here)))))) rfl) rfl ?_ | refine st_g rfl rfl rfl (by first | exact Says.bool _ _ | exact Says.opt _ _ _) (fun hc _ => by exact y_loadW (.plain rfl) (by first | exact .here | exact .there .here | exact .there (.there .here) | exact .there (.there (.there .here)) | exact .there (.there (.there (.there .here))) | exact .there (.there (.there (.there (.there .here)))) | exact .there (.there (.there (.there (.there (.there .here)))))) (by rfl)) rfl ?_ | refine st_g rfl rfl rfl (by first | exact Says.bool _ _ | exact Says.opt _ _ _) (fun hc _ => by exact y_loadAgg (.plain rfl) (by first | exact .here | exact .there .here | exact .there (.there .here) | exact .there (.there (.there .here)) | exact .there (.there (.there (.there .here))) | exact .there (.there (.there (.there (.there .here)))) | exact .there (.there (.there (.there (.there (.there .here)))))) (Nat.le_of_ble_eq_true rfl)) rfl ?_
    refine st_g rfl rfl rfl (by first | exact Says.bool _ _ | exact Says.opt _ _ _) (fun hc _ => by exact y_not (.opt rfl hc)) rfl ?_
    refine st_p (fun _ => by exact y_or (.plain rfl) rfl rfl) rfl ?_
    first | refine st_s (fun _ => by exact y_storeW (by rfl) rfl (.plain rfl) (.plain rfl) (by first | exact .here | exact .there .here | exact .there (.there .here) | exact .there (.there (.there .here)) | exact .there (.there (.there (.there .here))) | exact .there (.there (.there (.there (.there .here)))) | exact .there (.there (.there (.there (.there (.there .here)))))) (by rfl)) ?_ | refine st_s (fun _ => by exact y_store (by rfl) rfl (.plain rfl) (.plain rfl) (by first | exact .here | exact .there .here | exact .there (.there .here) | exact .there (.there (.there .here)) | exact .there (.there (.there (.there .here))) | exact .there (.there (.there (.there (.there .here)))) | exact .there (.there (.there (.there (.there (.there .here)))))) (Nat.le_of_ble_eq_true rfl)) ?_
    refine aops_nil ?_
    refine awp_seq ?_
    refine awp_region ?_
    first | refine st_p (fun _ => by exact y_loadE (.plain rfl) rfl) rfl ?_ | refine st_p (fun _ => by exact y_loadEW (.plain rfl) (by rfl)) rfl ?_ | refine st_p (fun _ => by exact y_loadEAgg (.plain rfl) (Nat.le_of_ble_eq_true rfl)) rfl ?_ | refine st_p (fun _ => by exact y_load (.plain rfl) (by first | exact .here | exact .there .here | exact .there (.there .here) | exact .there (.there (.there .here)) | exact .there (.there (.there (.there .here))) | exact .there (.there (.there (.there (.there .here)))) | exact .there (.there (.there (.there (.there (.there .here)))))) rfl) rfl ?_ | refine st_p (fun _ => by exact y_loadW (.plain rfl) (by first | exact .here | exact .there .here | exact .there (.there .here) | exact .there (.there (.there .here)) | exact .there (.there (.there (.there .here))) | exact .there (.there (.there (.there (.there .here)))) | exact .there (.there (.there (.there (.there (.there .here)))))) (by rfl)) rfl ?_ | refine st_p (fun _ => by exact y_loadAgg (.plain rfl) (by first | exact .here | exact .there .here | exact .there (.there .here) | exact .there (.there (.there .here)) | exact .there (.there (.there (.there .here))) | exact .there (.there (.there (.there (.there .here)))) | exact .there (.there (.there (.there (.there (.there .here)))))) (Nat.le_of_ble_eq_true rfl)) rfl ?_
    first | refine st_p (fun _ => by exact y_loadE (.plain rfl) rfl) rfl ?_ | refine st_p (fun _ => by exact y_loadEW (.plain rfl) (by rfl)) rfl ?_ | refine st_p (fun _ => by exact y_loadEAgg (.plain rfl) (Nat.le_of_ble_eq_true rfl)) rfl ?_ | refine st_p (fun _ => by exact y_load (.plain rfl) (by first | exact .here | exact .there .here | exact .there (.there .here) | exact .there (.there (.there .here)) | exact .there (.there (.there (.there .here))) | exact .there (.there (.there (.there (.there .here)))) | exact .there (.there (.there (.there (.there (.there .here)))))) rfl) rfl ?_ | refine st_p (fun _ => by exact y_loadW (.plain rfl) (by first | exact .here | exact .there .here | exact .there (.there .here) | exact .there (.there (.there .here)) | exact .there (.there (.there (.there .here))) | exact .there (.there (.there (.there (.there .here)))) | exact .there (.there (.there (.there (.there (.there .here)))))) (by rfl)) rfl ?_ | refine st_p (fun _ => by exact y_loadAgg (.plain rfl) (by first | exact .here | exact .there .here | exact .there (.there .here) | exact .there (.there (.there .here)) | exact .there (.there (.there (.there .here))) | exact .there (.there (.there (.there (.there .here)))) | exact .there (.there (.there (.there (.there (.there .here)))))) (Nat.le_of_ble_eq_true rfl)) rfl ?_
    refine st_p (fun _ => by exact y_buildSlice (.cons (.plain rfl) inferInstance (by rfl) .nil) rfl (Nat.le_of_ble_eq_true rfl)) rfl ?_
    first | refine st_append (by rfl) (.plain rfl) (.plain rfl) (by simp; try omega) rfl fun t2 => ?_ | refine st_appendT (by rfl) (.plain rfl) (.plain rfl) (by first | exact .here | exact .there .here | exact .there (.there .here) | exact .there (.there (.there .here)) | exact .there (.there (.there (.there .here))) | exact .there (.there (.there (.there (.there .here)))) | exact .there (.there (.there (.there (.there (.there .here)))))) (by simp; try omega) rfl fun t2 => ?_ | refine st_append0 (by rfl) (.plain rfl) (.plain rfl) (by simp; try omega) rfl fun t2 => ?_ | refine st_append0 (by rfl) (.imp (.plain rfl) AV.Imp.nil_grow) (.plain rfl) (by simp; try omega) rfl fun t2 => ?_ | refine st_append0 (by rfl) (.imp (.plain rfl) AV.Imp.full_grow) (.plain rfl) (by simp; try omega) rfl fun t2 => ?_ | refine st_appendT (by rfl) (.imp (.plain rfl) AV.Imp.own_grow) (.plain rfl) (by first | exact .here | exact .there .here | exact .there (.there .here) | exact .there (.there (.there .here)) | exact .there (.there (.there (.there .here))) | exact .there (.there (.there (.there (.there .here)))) | exact .there (.there (.there (.there (.there (.there .here)))))) (by simp; try omega) rfl fun t2 => ?_
    first | refine st_s (fun _ => by exact y_storeW (by rfl) rfl (.plain rfl) (.plain rfl) (by first | exact .here | exact .there .here | exact .there (.there .here) | exact .there (.there (.there .here)) | exact .there (.there (.there (.there .here))) | exact .there (.there (.there (.there (.there .here)))) | exact .there (.there (.there (.there (.there (.there .here)))))) (by rfl)) ?_ | refine st_s (fun _ => by exact y_store (by rfl) rfl (.plain rfl) (.plain rfl) (by first | exact .here | exact .there .here | exact .there (.there .here) | exact .there (.there (.there .here)) | exact .there (.there (.there (.there .here))) | exact .there (.there (.there (.there (.there .here)))) | exact .there (.there (.there (.there (.there (.there .here)))))) (Nat.le_of_ble_eq_true rfl)) ?_
    refine aops_nil ?_
    refine awp_seq ?_
    refine awp_region ?_
    refine st_p (fun _ => by exact y_assign (.plain rfl)) rfl ?_
    refine aops_nil ?_
    refine awp_ret ?_
    have hg : gcan x w = false := Bool.eq_false_iff.2 (fun e => by simp [gcan] at e; rcases h1 with (h | h) | h <;> simp_all)
    exact retG (.inr rfl) (.cons (.tmp rfl) .nil) (VShift.of (st' := GI s u a o any (gstep any x w) t2) (AV.Imp.refl _) (by rw [gstep_f any x w hg]; simp only [GI, List.map_append, List.map_cons, List.map_nil]; (repeat (first | exact .nil _ | refine .cons (by first | exact .here | exact .there .here | exact .there (.there .here) | exact .there (.there (.there .here)) | exact .there (.there (.there (.there .here))) | exact .there (.there (.there (.there (.there .here)))) | exact .there (.there (.there (.there (.there (.there .here)))))) ?_)); done)) ⟨by rw [hg]; rfl, t2, rfl⟩

theorem grant_c (l : List W) (hl : l.length ≤ 1000000) (u : Int) (any : Bool) (hu : -9223372036854775808 ≤ u ∧ u ≤ 9223372036854775807) : ACalls Try.prog 20 [slW l, .int u, .bool any] [] (fun v st => v = .tup [slW (grant any l u).g, slW (grant any l u).o, .int (grant any l u).u] ∧ st = []) := by
  refine acalls_body Try.func20 (by kernel_rfl) rfl Try.ntmps20 (Nat.le_of_ble_eq_true rfl) ?_
  rw [Try.results20]
  refine awp_seq ?_
  refine awp_region ?_
  refine st_n (fun _ => by exact y_box (.plain rfl)) rfl fun n1 => ?_
  refine st_p (fun _ => by exact y_assign (.plain rfl)) rfl ?_
  refine st_p (fun _ => by exact y_assign (.plain rfl)) rfl ?_
  refine st_p (fun _ => by exact y_assign (.plain rfl)) rfl ?_
  refine aops_nil ?_
  refine awp_seq ?_
  refine awp_region ?_
  refine st_p (fun _ => by exact y_move (.plain rfl)) rfl ?_
  refine st_n (fun _ => by exact y_alloc) rfl fun n2 => ?_
  refine st_n (fun _ => by exact y_alloc) rfl fun n3 => ?_
  first | refine st_s (fun _ => by exact y_storeW (by rfl) rfl (.plain rfl) (.plain rfl) (by first | exact .here | exact .there .here | exact .there (.there .here) | exact .there (.there (.there .here)) | exact .there (.there (.there (.there .here))) | exact .there (.there (.there (.there (.there .here)))) | exact .there (.there (.there (.there (.there (.there .here)))))) (by rfl)) ?_ | refine st_s (fun _ => by exact y_store (by rfl) rfl (.plain rfl) (.plain rfl) (by first | exact .here | exact .there .here | exact .there (.there .here) | exact .there (.there (.there .here)) | exact .there (.there (.there (.there .here))) | exact .there (.there (.there (.there (.there .here)))) | exact .there (.there (.there (.there (.there (.there .here)))))) (Nat.le_of_ble_eq_true rfl)) ?_
  first | refine st_s (fun _ => by exact y_storeW (by rfl) rfl (.plain rfl) (.plain rfl) (by first | exact .here | exact .there .here | exact .there (.there .here) | exact .there (.there (.there .here)) | exact .there (.there (.there (.there .here))) | exact .there (.there (.there (.there (.there .here)))) | exact .there (.there (.there (.there (.there (.there .here)))))) (by rfl)) ?_ | refine st_s (fun _ => by exact y_store (by rfl) rfl (.plain rfl) (.plain rfl) (by first | exact .here | exact .there .here | exact .there (.there .here) | exact .there (.there (.there .here)) | exact .there (.there (.there (.there .here))) | exact .there (.there (.there (.there (.there .here)))) | exact .there (.there (.there (.there (.there (.there .here)))))) (Nat.le_of_ble_eq_true rfl)) ?_
  refine aops_nil ?_
  refine awp_seq ?_
  refine awp_region ?_
  refine st_n (fun _ => by exact y_alloc) rfl fun n4 => ?_
  refine aops_nil ?_
  refine awp_seq ?_
  refine awp_region ?_
  refine st_p (fun _ => by exact y_move (.plain rfl)) rfl ?_
  refine st_p (fun _ => by exact y_makeFunc (.cons (.plain rfl) (.cons (.plain rfl) (.cons (.plain rfl) (.cons (.plain rfl) .nil))))) rfl ?_
  refine aops_weak (Weak.trans Weak.tail0 (Weak.trans (Weak.imp (st' := [.tail none, .cells n4 [.grow 5 none []], .cells n3 [.bool false], .cells n2 [.int u], .cells n1 [.bool any]]) (.same (.cells (.cons AV.Imp.nil_grow .nil) (ItImp.refl _)))) (Weak.items (st' := GI n3 n2 n1 n4 any ⟨[], [], u, false⟩ none) (by (repeat (first | exact .nil _ | refine .cons (by first | exact .here | exact .there .here | exact .there (.there .here) | exact .there (.there (.there .here)) | exact .there (.there (.there (.there .here))) | exact .there (.there (.there (.there (.there .here)))) | exact .there (.there (.there (.there (.there (.there .here)))))) ?_)); done)))) ?_
  refine aops_call (blt_lt rfl) (.plain rfl) (.cons (.plain rfl) (.cons (.plain rfl) .nil)) ((filter_c l hl 44 [.ptr n3 0, .ptr n2 0, .ptr n1 0, .ptr n4 0] (fun k => gcan (gst any l u k) (l.getD k default)) (fun k st => ∃ tok, st = GI n3 n2 n1 n4 any (gst any l u k) tok) _ ⟨none, rfl⟩ ?_).mono ?_)
  · rintro k hk st ⟨tok, rfl⟩
    have hgl := gst_len any l u k
    refine (grantK_c n3 n2 n1 n4 tok any (gst any l u k) l[k] (gst_u any l u hu k) (by omega)).mono ?_
    rintro v st ⟨rfl, tok', rfl⟩
    exact ⟨by rw [List.getD, List.getElem?_eq_getElem hk, Option.getD_some], tok', by rw [gst_succ any l u k hk]⟩
  rintro v st ⟨rfl, tok, rfl⟩
  refine st_p (fun _ => by exact y_assign (.plain rfl)) rfl ?_
  refine aops_nil ?_
  refine awp_seq ?_
  refine awp_any0 (ks := [.free, .free, .free, .free, .free, .free]) (by kernel_rfl) (fun K => ?_) ?_
  · skip
    refine dr_p (fun _ => by exact y_move (.plain rfl)) rfl ?_
    first | refine dr_p (fun _ => by exact y_loadE (.plain rfl) rfl) rfl ?_ | refine dr_p (fun _ => by exact y_loadEW (.plain rfl) (by rfl)) rfl ?_ | refine dr_p (fun _ => by exact y_loadEAgg (.plain rfl) (Nat.le_of_ble_eq_true rfl)) rfl ?_ | refine dr_p (fun _ => by exact y_load (.plain rfl) (by first | exact .here | exact .there .here | exact .there (.there .here) | exact .there (.there (.there .here)) | exact .there (.there (.there (.there .here))) | exact .there (.there (.there (.there (.there .here)))) | exact .there (.there (.there (.there (.there (.there .here)))))) rfl) rfl ?_ | refine dr_p (fun _ => by exact y_loadW (.plain rfl) (by first | exact .here | exact .there .here | exact .there (.there .here) | exact .there (.there (.there .here)) | exact .there (.there (.there (.there .here))) | exact .there (.there (.there (.there (.there .here)))) | exact .there (.there (.there (.there (.there (.there .here)))))) (by rfl)) rfl ?_ | refine dr_p (fun _ => by exact y_loadAgg (.plain rfl) (by first | exact .here | exact .there .here | exact .there (.there .here) | exact .there (.there (.there .here)) | exact .there (.there (.there (.there .here))) | exact .there (.there (.there (.there (.there .here)))) | exact .there (.there (.there (.there (.there (.there .here)))))) (Nat.le_of_ble_eq_true rfl)) rfl ?_
    first | refine dr_p (fun _ => by exact y_loadE (.plain rfl) rfl) rfl ?_ | refine dr_p (fun _ => by exact y_loadEW (.plain rfl) (by rfl)) rfl ?_ | refine dr_p (fun _ => by exact y_loadEAgg (.plain rfl) (Nat.le_of_ble_eq_true rfl)) rfl ?_ | refine dr_p (fun _ => by exact y_load (.plain rfl) (by first | exact .here | exact .there .here | exact .there (.there .here) | exact .there (.there (.there .here)) | exact .there (.there (.there (.there .here))) | exact .there (.there (.there (.there (.there .here)))) | exact .there (.there (.there (.there (.there (.there .here)))))) rfl) rfl ?_ | refine dr_p (fun _ => by exact y_loadW (.plain rfl) (by first | exact .here | exact .there .here | exact .there (.there .here) | exact .there (.there (.there .here)) | exact .there (.there (.there (.there .here))) | exact .there (.there (.there (.there (.there .here)))) | exact .there (.there (.there (.there (.there (.there .here)))))) (by rfl)) rfl ?_ | refine dr_p (fun _ => by exact y_loadAgg (.plain rfl) (by first | exact .here | exact .there .here | exact .there (.there .here) | exact .there (.there (.there .here)) | exact .there (.there (.there (.there .here))) | exact .there (.there (.there (.there (.there .here)))) | exact .there (.there (.there (.there (.there (.there .here)))))) (Nat.le_of_ble_eq_true rfl)) rfl ?_
    refine dr_p (fun _ => by exact y_assign (.plain rfl)) rfl ?_
    refine dr_p (fun _ => by exact y_assign (.plain rfl)) rfl ?_
    refine dr_p (fun _ => by exact y_assign (.plain rfl)) rfl ?_
    refine dr_nil ⟨rfl, ?_⟩
    refine awp_ret ?_
    exact retG (.inr rfl) (.cons (.tmp rfl) (.cons (.tmp rfl) (.cons (.tmp rfl) .nil))) (VShift.of (AV.Imp.tup (.cons (AV.Imp.of_eq (by rw [gst_kp any l u _ (Nat.le_refl _)])) (.cons AV.Imp.grow_sl (.cons (AV.Imp.refl _) .nil)))) (.nil _)) ⟨by rw [gst_all], rfl⟩
  · kernel_rfl

theorem grantR_c (l : List W) (hl : l.length ≤ 1000000) (u : Int) (any : Bool) (hu : -9223372036854775808 ≤ u ∧ u ≤ 9223372036854775807) : ACalls Try.prog 21 [slW l, .int u, .bool any] [] (fun v st => v = .tup [slW (grant any l u).g, slW (grant any l u).o, .int (grant any l u).u] ∧ st = []) := by
  refine acalls_body Try.func21 (by kernel_rfl) rfl Try.ntmps21 (Nat.le_of_ble_eq_true rfl) ?_
  rw [Try.results21]
  refine awp_seq ?_
  refine awp_region ?_
  refine st_p (fun _ => by exact y_assign (.plain rfl)) rfl ?_
  refine st_p (fun _ => by exact y_assign (.plain rfl)) rfl ?_
  refine st_p (fun _ => by exact y_assign (.plain rfl)) rfl ?_
  refine aops_nil ?_
  refine awp_seq ?_
  refine awp_region ?_
  refine st_p (fun _ => by exact y_buildSlice .nil rfl (Nat.le_of_ble_eq_true rfl)) rfl ?_
  refine st_p (fun _ => by exact y_buildSlice .nil rfl (Nat.le_of_ble_eq_true rfl)) rfl ?_
  refine st_p (fun _ => by exact y_assign (.plain rfl)) rfl ?_
  refine st_p (fun _ => by exact y_assign (.plain rfl)) rfl ?_
  refine aops_nil ?_
  refine awp_seq ?_
  refine awp_region ?_
  refine st_p (fun _ => by exact y_assign (.plain rfl)) rfl ?_
  refine aops_nil ?_
  refine awp_seq ?_
  refine awp_seq ?_
  refine awp_region ?_
  refine st_p (fun _ => by exact y_assign (.plain rfl)) rfl ?_
  refine aops_nil ?_
  refine awp_block ?_
  refine awp_loop (X := Nat × Option Nat × Option Nat) (fun x => [(0, slW l), (1, .int (gst any l u x.1).u), (2, .bool any), (9, .grow 5 x.2.1 ((gst any l u x.1).g.map encW)), (10, .grow 5 x.2.2 ((gst any l u x.1).o.map encW)), (11, .bool (gst any l u x.1).s), (12, .int (x.1 : Int))]) (fun x => [.tail x.2.1, .tail x.2.2]) (fun x => x.1 ≤ l.length) (fun x => l.length - x.1) (0, none, none) (Nat.zero_le _) ?_ ?_
  · exact Weak.trans Weak.tail0 (Weak.trans Weak.tail0 (Weak.of (by (repeat (first | exact .nil _ | refine .cons rfl (by first | exact AV.Imp.refl _ | exact AV.Imp.grow_sl | exact AV.Imp.full_sl | exact AV.Imp.own_sl | exact AV.Imp.nil_sl | exact AV.Imp.nil_full | exact AV.Imp.nil_grow | exact AV.Imp.full_grow | exact AV.Imp.own_grow | exact AV.Imp.of_eq (congrArg AV.int (by omega)) | exact AV.Imp.of_eq (by simp; try omega)) ?_)); done) (by (repeat (first | exact .nil _ | refine .cons (by first | exact .here | exact .there .here | exact .there (.there .here) | exact .there (.there (.there .here)) | exact .there (.there (.there (.there .here))) | exact .there (.there (.there (.there (.there .here)))) | exact .there (.there (.there (.there (.there (.there .here)))))) ?_)); done)))
  · rintro ⟨k, tk1, tk2⟩ hk
    simp only at hk
    refine awp_seq ?_
    refine awp_seq ?_
    refine awp_region ?_
    refine st_p (fun _ => by exact y_move (.plain rfl)) rfl ?_
    refine st_p (fun _ => by exact y_move (.plain rfl)) rfl ?_
    first | refine st_p (fun _ => by exact y_len (.plain rfl)) rfl ?_ | refine st_p (fun _ => by exact y_lenArr (.plain rfl)) rfl ?_
    refine st_p (fun _ => by exact y_lss (.plain rfl) (.plain rfl)) rfl ?_
    refine aops_nil ?_
    refine awp_cond rfl (fun h1 => ?_) (fun h1 => ?_)
    · skip
      try simp only [decide_eq_true_eq, decide_eq_false_iff_not, Bool.not_eq_true', Bool.not_eq_false', Bool.not_eq_true, Bool.not_eq_false, List.length_map, Int.ofNat_lt, Int.ofNat_le, Bool.or_eq_true, Bool.and_eq_true, Bool.or_eq_false_iff, Bool.and_eq_false_iff] at h1
      refine awp_skip ?_
      refine awp_seq ?_
      refine awp_block ?_
      refine awp_seq ?_
      refine awp_region ?_
      refine st_p (fun _ => by exact y_move (.plain rfl)) rfl ?_
      refine st_p (fun _ => by exact y_not (.plain rfl)) rfl ?_
      refine st_p (fun _ => by exact y_move (.plain rfl)) rfl ?_
      refine st_g rfl rfl rfl (by first | exact Says.bool _ _ | exact Says.opt _ _ _) (fun hc _ => by exact y_move (.plain rfl)) rfl ?_
      refine st_g rfl rfl rfl (by first | exact Says.bool _ _ | exact Says.opt _ _ _) (fun hc _ => by exact y_move (.plain rfl)) rfl ?_
      first | refine st_g rfl rfl rfl (by first | exact Says.bool _ _ | exact Says.opt _ _ _) (fun hc _ => by exact y_indexMap (.opt rfl hc) (.opt rfl hc) rfl (by refine ⟨?_, ?_⟩; (first | omega | (simp; omega) | (simp at hc; omega) | (simp at hc ⊢; omega) | (simp; done)); rfl)) rfl ?_ | refine st_g rfl rfl rfl (by first | exact Says.bool _ _ | exact Says.opt _ _ _) (fun hc _ => by exact y_indexT (.opt rfl hc) (.opt rfl hc) (by first | omega | (simp; omega) | (simp at hc; omega) | (simp at hc ⊢; omega) | (simp; done)) (by first | omega | (simp; omega) | (simp at hc; omega) | (simp at hc ⊢; omega) | (simp; done))) rfl ?_ | refine st_g rfl rfl rfl (by first | exact Says.bool _ _ | exact Says.opt _ _ _) (fun hc _ => by exact y_index (.opt rfl hc) (.opt rfl hc) (by omega) rfl) rfl ?_ | refine st_g rfl rfl rfl (by first | exact Says.bool _ _ | exact Says.opt _ _ _) (fun hc _ => by exact y_indexArr (.opt rfl hc) (.opt rfl hc) rfl (by first | omega | (simp; omega) | (simp at hc; omega) | (simp at hc ⊢; omega) | (simp; done))) rfl ?_ | refine st_g rfl rfl rfl (by first | exact Says.bool _ _ | exact Says.opt _ _ _) (fun hc _ => by exact y_indexVar (.opt rfl hc) (.opt rfl hc) rfl (by first | omega | (simp; omega) | (simp at hc; omega) | (simp at hc ⊢; omega) | (simp; done))) rfl ?_
      first | refine st_g rfl rfl rfl (by first | exact Says.bool _ _ | exact Says.opt _ _ _) (fun hc _ => by exact y_fieldPtr (.opt rfl hc)) rfl ?_ | refine st_g rfl rfl rfl (by first | exact Says.bool _ _ | exact Says.opt _ _ _) (fun hc _ => by exact y_fieldE (.opt rfl hc) (Nat.le_of_ble_eq_true rfl)) rfl ?_
      first | refine st_g rfl rfl rfl (by first | exact Says.bool _ _ | exact Says.opt _ _ _) (fun hc _ => by exact y_loadE (.opt rfl hc) rfl) rfl ?_ | refine st_g rfl rfl rfl (by first | exact Says.bool _ _ | exact Says.opt _ _ _) (fun hc _ => by exact y_loadEW (.opt rfl hc) (by rfl)) rfl ?_ | refine st_g rfl rfl rfl (by first | exact Says.bool _ _ | exact Says.opt _ _ _) (fun hc _ => by exact y_loadEAgg (.opt rfl hc) (Nat.le_of_ble_eq_true rfl)) rfl ?_ | refine st_g rfl rfl rfl (by first | exact Says.bool _ _ | exact Says.opt _ _ _) (fun hc _ => by exact y_load (.opt rfl hc) (by first | exact .here | exact .there .here | exact .there (.there .here) | exact .there (.there (.there .here)) | exact .there (.there (.there (.there .here))) | exact .there (.there (.there (.there (.there .here)))) | exact .there (.there (.there (.there (.there (.there .here)))))) rfl) rfl ?_ | refine st_g rfl rfl rfl (by first | exact Says.bool _ _ | exact Says.opt _ _ _) (fun hc _ => by exact y_loadW (.opt rfl hc) (by first | exact .here | exact .there .here | exact .there (.there .here) | exact .there (.there (.there .here)) | exact .there (.there (.there (.there .here))) | exact .there (.there (.there (.there (.there .here)))) | exact .there (.there (.there (.there (.there (.there .here)))))) (by rfl)) rfl ?_ | refine st_g rfl rfl rfl (by first | exact Says.bool _ _ | exact Says.opt _ _ _) (fun hc _ => by exact y_loadAgg (.opt rfl hc) (by first | exact .here | exact .there .here | exact .there (.there .here) | exact .there (.there (.there .here)) | exact .there (.there (.there (.there .here))) | exact .there (.there (.there (.there (.there .here)))) | exact .there (.there (.there (.there (.there (.there .here)))))) (Nat.le_of_ble_eq_true rfl)) rfl ?_
      refine st_g rfl rfl rfl (by first | exact Says.bool _ _ | exact Says.opt _ _ _) (fun hc _ => by exact y_move (.plain rfl)) rfl ?_
      refine st_g rfl rfl rfl (by first | exact Says.bool _ _ | exact Says.opt _ _ _) (fun hc _ => by exact y_call (.plain rfl) (.cons (.opt rfl hc) (.cons (.plain rfl) (.cons (.opt rfl hc) .nil))) (ACalls.pure (within_c _ _ _))) rfl ?_
      refine st_p (fun _ => by exact y_and (.plain rfl) rfl rfl) rfl ?_
      refine aops_nil ?_
      refine awp_cond rfl (fun h2 => ?_) (fun h2 => ?_)
      · skip
        try simp only [decide_eq_true_eq, decide_eq_false_iff_not, Bool.not_eq_true', Bool.not_eq_false', Bool.not_eq_true, Bool.not_eq_false, List.length_map, Int.ofNat_lt, Int.ofNat_le, Bool.or_eq_true, Bool.and_eq_true, Bool.or_eq_false_iff, Bool.and_eq_false_iff] at h2
        have hg : gcan (gst any l u k) l[k] = true := by simp [gcan, h2]
        have hgl := gst_len any l u k
        have hgu := gst_u any l u hu k
        refine awp_any (ks := [.free, .free, .free, .free, .free, .free, .write, .free, .free, .free, .free, .free, .free, .free, .free, .free]) (A := [.tail tk2]) (by kernel_rfl) [.tail tk1] (List.Perm.refl _) (fun K => ?_) ?_
        · skip
          have hgl := gst_len any l u k
          have hgu := gst_u any l u hu k
          refine dr_p (fun _ => by exact y_move (.plain rfl)) rfl ?_
          refine dr_p (fun _ => by exact y_move (.plain rfl)) rfl ?_
          refine dr_p (fun _ => by exact y_move (.plain rfl)) rfl ?_
          first | refine dr_p (fun _ => by exact y_indexMap (.plain rfl) (.plain rfl) rfl (by refine ⟨?_, ?_⟩; (first | omega | (simp; omega) | (simp at hc; omega) | (simp at hc ⊢; omega) | (simp; done)); rfl)) rfl ?_ | refine dr_p (fun _ => by exact y_indexT (.plain rfl) (.plain rfl) (by first | omega | (simp; omega) | (simp at hc; omega) | (simp at hc ⊢; omega) | (simp; done)) (by first | omega | (simp; omega) | (simp at hc; omega) | (simp at hc ⊢; omega) | (simp; done))) rfl ?_ | refine dr_p (fun _ => by exact y_index (.plain rfl) (.plain rfl) (by omega) rfl) rfl ?_ | refine dr_p (fun _ => by exact y_indexArr (.plain rfl) (.plain rfl) rfl (by first | omega | (simp; omega) | (simp at hc; omega) | (simp at hc ⊢; omega) | (simp; done))) rfl ?_ | refine dr_p (fun _ => by exact y_indexVar (.plain rfl) (.plain rfl) rfl (by first | omega | (simp; omega) | (simp at hc; omega) | (simp at hc ⊢; omega) | (simp; done))) rfl ?_
          first | refine dr_p (fun _ => by exact y_loadE (.plain rfl) rfl) rfl ?_ | refine dr_p (fun _ => by exact y_loadEW (.plain rfl) (by rfl)) rfl ?_ | refine dr_p (fun _ => by exact y_loadEAgg (.plain rfl) (Nat.le_of_ble_eq_true rfl)) rfl ?_ | refine dr_p (fun _ => by exact y_load (.plain rfl) (by first | exact .here | exact .there .here | exact .there (.there .here) | exact .there (.there (.there .here)) | exact .there (.there (.there (.there .here))) | exact .there (.there (.there (.there (.there .here)))) | exact .there (.there (.there (.there (.there (.there .here)))))) rfl) rfl ?_ | refine dr_p (fun _ => by exact y_loadW (.plain rfl) (by first | exact .here | exact .there .here | exact .there (.there .here) | exact .there (.there (.there .here)) | exact .there (.there (.there (.there .here))) | exact .there (.there (.there (.there (.there .here)))) | exact .there (.there (.there (.there (.there (.there .here)))))) (by rfl)) rfl ?_ | refine dr_p (fun _ => by exact y_loadAgg (.plain rfl) (by first | exact .here | exact .there .here | exact .there (.there .here) | exact .there (.there (.there .here)) | exact .there (.there (.there (.there .here))) | exact .there (.there (.there (.there (.there .here)))) | exact .there (.there (.there (.there (.there (.there .here)))))) (Nat.le_of_ble_eq_true rfl)) rfl ?_
          refine dr_p (fun _ => by exact y_buildSlice (.cons (.plain rfl) inferInstance (by rfl) .nil) rfl (Nat.le_of_ble_eq_true rfl)) rfl ?_
          refine dr_append (by rfl) (.plain rfl) (.plain rfl) (by simp; try omega) rfl fun t1 => ?_
          refine dr_p (fun _ => by exact y_move (.plain rfl)) rfl ?_
          refine dr_p (fun _ => by exact y_move (.plain rfl)) rfl ?_
          refine dr_p (fun _ => by exact y_move (.plain rfl)) rfl ?_
          first | refine dr_p (fun _ => by exact y_indexMap (.plain rfl) (.plain rfl) rfl (by refine ⟨?_, ?_⟩; (first | omega | (simp; omega) | (simp at hc; omega) | (simp at hc ⊢; omega) | (simp; done)); rfl)) rfl ?_ | refine dr_p (fun _ => by exact y_indexT (.plain rfl) (.plain rfl) (by first | omega | (simp; omega) | (simp at hc; omega) | (simp at hc ⊢; omega) | (simp; done)) (by first | omega | (simp; omega) | (simp at hc; omega) | (simp at hc ⊢; omega) | (simp; done))) rfl ?_ | refine dr_p (fun _ => by exact y_index (.plain rfl) (.plain rfl) (by omega) rfl) rfl ?_ | refine dr_p (fun _ => by exact y_indexArr (.plain rfl) (.plain rfl) rfl (by first | omega | (simp; omega) | (simp at hc; omega) | (simp at hc ⊢; omega) | (simp; done))) rfl ?_ | refine dr_p (fun _ => by exact y_indexVar (.plain rfl) (.plain rfl) rfl (by first | omega | (simp; omega) | (simp at hc; omega) | (simp at hc ⊢; omega) | (simp; done))) rfl ?_
          first | refine dr_p (fun _ => by exact y_fieldPtr (.plain rfl)) rfl ?_ | refine dr_p (fun _ => by exact y_fieldE (.plain rfl) (Nat.le_of_ble_eq_true rfl)) rfl ?_
          first | refine dr_p (fun _ => by exact y_loadE (.plain rfl) rfl) rfl ?_ | refine dr_p (fun _ => by exact y_loadEW (.plain rfl) (by rfl)) rfl ?_ | refine dr_p (fun _ => by exact y_loadEAgg (.plain rfl) (Nat.le_of_ble_eq_true rfl)) rfl ?_ | refine dr_p (fun _ => by exact y_load (.plain rfl) (by first | exact .here | exact .there .here | exact .there (.there .here) | exact .there (.there (.there .here)) | exact .there (.there (.there (.there .here))) | exact .there (.there (.there (.there (.there .here)))) | exact .there (.there (.there (.there (.there (.there .here)))))) rfl) rfl ?_ | refine dr_p (fun _ => by exact y_loadW (.plain rfl) (by first | exact .here | exact .there .here | exact .there (.there .here) | exact .there (.there (.there .here)) | exact .there (.there (.there (.there .here))) | exact .there (.there (.there (.there (.there .here)))) | exact .there (.there (.there (.there (.there (.there .here)))))) (by rfl)) rfl ?_ | refine dr_p (fun _ => by exact y_loadAgg (.plain rfl) (by first | exact .here | exact .there .here | exact .there (.there .here) | exact .there (.there (.there .here)) | exact .there (.there (.there (.there .here))) | exact .there (.there (.there (.there (.there .here)))) | exact .there (.there (.there (.there (.there (.there .here)))))) (Nat.le_of_ble_eq_true rfl)) rfl ?_
          refine dr_p (fun _ => by exact y_sub (.plain rfl) (.plain rfl) (by first | omega | (simp; omega) | (simp at hc; omega) | (simp at hc ⊢; omega) | (simp; done))) rfl ?_
          refine dr_p (fun _ => by exact y_assign (.plain rfl)) rfl ?_
          refine dr_p (fun _ => by exact y_assign (.plain rfl)) rfl ?_
          refine dr_nil ?_
          refine awp_region ?_
          refine st_p (fun _ => by exact y_move (.plain rfl)) rfl ?_
          refine st_p (fun _ => by exact y_add (.plain rfl) (.plain rfl) (by first | omega | (simp; omega) | (simp at hc; omega) | (simp at hc ⊢; omega) | (simp; done))) rfl ?_
          refine st_p (fun _ => by exact y_assign (.plain rfl)) rfl ?_
          refine aops_nil ?_
          first | exact ⟨(k + 1, t1, tk2), by show k + 1 ≤ _; omega, by show l.length - (k + 1) < l.length - k; omega, Weak.of (by (repeat (first | exact .nil _ | refine .cons rfl (by first | exact AV.Imp.refl _ | exact AV.Imp.of_eq (by simp [gst_succ any l u k h1, gstep_t any _ _ hg])) ?_ | refine .cons rfl (by first | exact AV.Imp.refl _ | exact AV.Imp.grow_sl | exact AV.Imp.full_sl | exact AV.Imp.own_sl | exact AV.Imp.nil_sl | exact AV.Imp.nil_full | exact AV.Imp.nil_grow | exact AV.Imp.full_grow | exact AV.Imp.own_grow | exact AV.Imp.of_eq (congrArg AV.int (by omega)) | exact AV.Imp.of_eq (by simp; try omega)) ?_)); done) (by (repeat (first | exact .nil _ | refine .cons (by first | exact .here | exact .there .here | exact .there (.there .here) | exact .there (.there (.there .here)) | exact .there (.there (.there (.there .here))) | exact .there (.there (.there (.there (.there .here)))) | exact .there (.there (.there (.there (.there (.there .here)))))) ?_)); done)⟩ | exact ⟨(k + 1, tk1, t2), by show k + 1 ≤ _; omega, by show l.length - (k + 1) < l.length - k; omega, Weak.of (by (repeat (first | exact .nil _ | refine .cons rfl (by first | exact AV.Imp.refl _ | exact AV.Imp.of_eq (by simp [gst_succ any l u k h1, gstep_f any _ _ hg, gst_or any l u k])) ?_ | refine .cons rfl (by first | exact AV.Imp.refl _ | exact AV.Imp.grow_sl | exact AV.Imp.full_sl | exact AV.Imp.own_sl | exact AV.Imp.nil_sl | exact AV.Imp.nil_full | exact AV.Imp.nil_grow | exact AV.Imp.full_grow | exact AV.Imp.own_grow | exact AV.Imp.of_eq (congrArg AV.int (by omega)) | exact AV.Imp.of_eq (by simp; try omega)) ?_)); done) (by (repeat (first | exact .nil _ | refine .cons (by first | exact .here | exact .there .here | exact .there (.there .here) | exact .there (.there (.there .here)) | exact .there (.there (.there (.there .here))) | exact .there (.there (.there (.there (.there .here)))) | exact .there (.there (.there (.there (.there (.there .here)))))) ?_)); done)⟩
        · kernel_rfl
      · skip
        try simp only [decide_eq_true_eq, decide_eq_false_iff_not, Bool.not_eq_true', Bool.not_eq_false', Bool.not_eq_true, Bool.not_eq_false, List.length_map, Int.ofNat_lt, Int.ofNat_le, Bool.or_eq_true, Bool.and_eq_true, Bool.or_eq_false_iff, Bool.and_eq_false_iff] at h2
        have hg : gcan (gst any l u k) l[k] = false := Bool.eq_false_iff.2 (fun e => by simp [gcan] at e; simp_all)
        have hgl := gst_len any l u k
        have hgu := gst_u any l u hu k
        refine awp_region ?_
        refine st_p (fun _ => by exact y_move (.plain rfl)) rfl ?_
        refine st_p (fun _ => by exact y_move (.plain rfl)) rfl ?_
        refine st_p (fun _ => by exact y_move (.plain rfl)) rfl ?_
        first | refine st_p (fun _ => by exact y_indexMap (.plain rfl) (.plain rfl) rfl (by refine ⟨?_, ?_⟩; (first | omega | (simp; omega) | (simp at hc; omega) | (simp at hc ⊢; omega) | (simp; done)); rfl)) rfl ?_ | refine st_p (fun _ => by exact y_indexT (.plain rfl) (.plain rfl) (by first | omega | (simp; omega) | (simp at hc; omega) | (simp at hc ⊢; omega) | (simp; done)) (by first | omega | (simp; omega) | (simp at hc; omega) | (simp at hc ⊢; omega) | (simp; done))) rfl ?_ | refine st_p (fun _ => by exact y_index (.plain rfl) (.plain rfl) (by omega) rfl) rfl ?_ | refine st_p (fun _ => by exact y_indexArr (.plain rfl) (.plain rfl) rfl (by first | omega | (simp; omega) | (simp at hc; omega) | (simp at hc ⊢; omega) | (simp; done))) rfl ?_ | refine st_p (fun _ => by exact y_indexVar (.plain rfl) (.plain rfl) rfl (by first | omega | (simp; omega) | (simp at hc; omega) | (simp at hc ⊢; omega) | (simp; done))) rfl ?_
        first | refine st_p (fun _ => by exact y_loadE (.plain rfl) rfl) rfl ?_ | refine st_p (fun _ => by exact y_loadEW (.plain rfl) (by rfl)) rfl ?_ | refine st_p (fun _ => by exact y_loadEAgg (.plain rfl) (Nat.le_of_ble_eq_true rfl)) rfl ?_ | refine st_p (fun _ => by exact y_load (.plain rfl) (by first | exact .here | exact .there .here | exact .there (.there .here) | exact .there (.there (.there .here)) | exact .there (.there (.there (.there .here))) | exact .there (.there (.there (.there (.there .here)))) | exact .there (.there (.there (.there (.there (.there .here)))))) rfl) rfl ?_ | refine st_p (fun _ => by exact y_loadW (.plain rfl) (by first | exact .here | exact .there .here | exact .there (.there .here) | exact .there (.there (.there .here)) | exact .there (.there (.there (.there .here))) | exact .there (.there (.there (.there (.there .here)))) | exact .there (.there (.there (.there (.there (.there .here)))))) (by rfl)) rfl ?_ | refine st_p (fun _ => by exact y_loadAgg (.plain rfl) (by first | exact .here | exact .there .here | exact .there (.there .here) | exact .there (.there (.there .here)) | exact .there (.there (.there (.there .here))) | exact .there (.there (.there (.there (.there .here)))) | exact .there (.there (.there (.there (.there (.there .here)))))) (Nat.le_of_ble_eq_true rfl)) rfl ?_
        refine st_p (fun _ => by exact y_buildSlice (.cons (.plain rfl) inferInstance (by rfl) .nil) rfl (Nat.le_of_ble_eq_true rfl)) rfl ?_
        first | refine st_append (by rfl) (.plain rfl) (.plain rfl) (by simp; try omega) rfl fun t2 => ?_ | refine st_appendT (by rfl) (.plain rfl) (.plain rfl) (by first | exact .here | exact .there .here | exact .there (.there .here) | exact .there (.there (.there .here)) | exact .there (.there (.there (.there .here))) | exact .there (.there (.there (.there (.there .here)))) | exact .there (.there (.there (.there (.there (.there .here)))))) (by simp; try omega) rfl fun t2 => ?_ | refine st_append0 (by rfl) (.plain rfl) (.plain rfl) (by simp; try omega) rfl fun t2 => ?_ | refine st_append0 (by rfl) (.imp (.plain rfl) AV.Imp.nil_grow) (.plain rfl) (by simp; try omega) rfl fun t2 => ?_ | refine st_append0 (by rfl) (.imp (.plain rfl) AV.Imp.full_grow) (.plain rfl) (by simp; try omega) rfl fun t2 => ?_ | refine st_appendT (by rfl) (.imp (.plain rfl) AV.Imp.own_grow) (.plain rfl) (by first | exact .here | exact .there .here | exact .there (.there .here) | exact .there (.there (.there .here)) | exact .there (.there (.there (.there .here))) | exact .there (.there (.there (.there (.there .here)))) | exact .there (.there (.there (.there (.there (.there .here)))))) (by simp; try omega) rfl fun t2 => ?_
        refine st_p (fun _ => by exact y_move (.plain rfl)) rfl ?_
        refine st_p (fun _ => by exact y_not (.plain rfl)) rfl ?_
        refine st_p (fun _ => by exact y_assign (.plain rfl)) rfl ?_
        refine st_p (fun _ => by exact y_assign (.plain rfl)) rfl ?_
        refine aops_nil ?_
        refine awp_region ?_
        refine st_p (fun _ => by exact y_move (.plain rfl)) rfl ?_
        refine st_p (fun _ => by exact y_add (.plain rfl) (.plain rfl) (by first | omega | (simp; omega) | (simp at hc; omega) | (simp at hc ⊢; omega) | (simp; done))) rfl ?_
        refine st_p (fun _ => by exact y_assign (.plain rfl)) rfl ?_
        refine aops_nil ?_
        first | exact ⟨(k + 1, t1, tk2), by show k + 1 ≤ _; omega, by show l.length - (k + 1) < l.length - k; omega, Weak.of (by (repeat (first | exact .nil _ | refine .cons rfl (by first | exact AV.Imp.refl _ | exact AV.Imp.of_eq (by simp [gst_succ any l u k h1, gstep_t any _ _ hg])) ?_ | refine .cons rfl (by first | exact AV.Imp.refl _ | exact AV.Imp.grow_sl | exact AV.Imp.full_sl | exact AV.Imp.own_sl | exact AV.Imp.nil_sl | exact AV.Imp.nil_full | exact AV.Imp.nil_grow | exact AV.Imp.full_grow | exact AV.Imp.own_grow | exact AV.Imp.of_eq (congrArg AV.int (by omega)) | exact AV.Imp.of_eq (by simp; try omega)) ?_)); done) (by (repeat (first | exact .nil _ | refine .cons (by first | exact .here | exact .there .here | exact .there (.there .here) | exact .there (.there (.there .here)) | exact .there (.there (.there (.there .here))) | exact .there (.there (.there (.there (.there .here)))) | exact .there (.there (.there (.there (.there (.there .here)))))) ?_)); done)⟩ | exact ⟨(k + 1, tk1, t2), by show k + 1 ≤ _; omega, by show l.length - (k + 1) < l.length - k; omega, Weak.of (by (repeat (first | exact .nil _ | refine .cons rfl (by first | exact AV.Imp.refl _ | exact AV.Imp.of_eq (by simp [gst_succ any l u k h1, gstep_f any _ _ hg, gst_or any l u k])) ?_ | refine .cons rfl (by first | exact AV.Imp.refl _ | exact AV.Imp.grow_sl | exact AV.Imp.full_sl | exact AV.Imp.own_sl | exact AV.Imp.nil_sl | exact AV.Imp.nil_full | exact AV.Imp.nil_grow | exact AV.Imp.full_grow | exact AV.Imp.own_grow | exact AV.Imp.of_eq (congrArg AV.int (by omega)) | exact AV.Imp.of_eq (by simp; try omega)) ?_)); done) (by (repeat (first | exact .nil _ | refine .cons (by first | exact .here | exact .there .here | exact .there (.there .here) | exact .there (.there (.there .here)) | exact .there (.there (.there (.there .here))) | exact .there (.there (.there (.there (.there .here)))) | exact .there (.there (.there (.there (.there (.there .here)))))) ?_)); done)⟩
    · skip
      try simp only [decide_eq_true_eq, decide_eq_false_iff_not, Bool.not_eq_true', Bool.not_eq_false', Bool.not_eq_true, Bool.not_eq_false, List.length_map, Int.ofNat_lt, Int.ofNat_le, Bool.or_eq_true, Bool.and_eq_true, Bool.or_eq_false_iff, Bool.and_eq_false_iff] at h1
      refine awp_exit ?_
      refine awp_seq ?_
      refine awp_region ?_
      refine st_p (fun _ => by exact y_move (.plain rfl)) rfl ?_
      refine st_p (fun _ => by exact y_move (.plain rfl)) rfl ?_
      refine st_p (fun _ => by exact y_move (.plain rfl)) rfl ?_
      refine st_p (fun _ => by exact y_assign (.plain rfl)) rfl ?_
      refine st_p (fun _ => by exact y_assign (.plain rfl)) rfl ?_
      refine st_p (fun _ => by exact y_assign (.plain rfl)) rfl ?_
      refine aops_nil ?_
      refine awp_ret ?_
      obtain rfl : k = l.length := by omega
      exact retG (.inr rfl) (.cons (.tmp rfl) (.cons (.tmp rfl) (.cons (.tmp rfl) .nil))) (VShift.of (AV.Imp.tup (.cons AV.Imp.grow_sl (.cons AV.Imp.grow_sl (.cons (AV.Imp.refl _) .nil)))) (.nil _)) ⟨by rw [gst_all], rfl⟩

end Go.Proofs
