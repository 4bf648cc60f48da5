/- A part of the proof. No condition. -/
import Derived.Test.YtplpmodeoiklcaaGreatP4
import Derived.Test.YtplpmodeoiklcaaGreatRows
set_option linter.unusedVariables false
set_option linter.unusedSimpArgs false
set_option maxRecDepth 10000
namespace Go.Proofs
open Go.Aw Wl Pn
theorem fine_c (z : Pn.Pl) (L : List (List Int)) (hz : z.stages.length ≤ 9223372036854775807) (hL : L.length ≤ 1000) : ACalls Tryz.prog 5 [(AV.agg (encPl z)), (AV.sl 1 (List.map encLI L))] [] (fun v st => v = (AV.bool (Pn.fineM z L)) ∧ st = []) := by
 refine acalls_body Tryz.func5 (by kernel_rfl) rfl Tryz.ntmps5 (le_ rfl) ?_
 rw [Tryz.results5]
 refine asr ?_
 refine sB fun n2 => ?_
 refine sA ?_
 refine aops_nil ?_
 refine asr ?_
 refine sA ?_
 refine aops_nil ?_
 refine awp_seq ?_
 refine asr ?_
 refine sF ?_
 refine sL .here ?_
 refine sN ?_
 refine sM ?_
 refine aops_nil ?_
 refine awp_block ?_
 refine awp_loop2 (X := Nat) [1, 2, 11, 12] (.cons rfl (.cons rfl (.cons rfl (.cons rfl .nil)))) (fun σ x => ((5, .int (Pn.itW z.stages x)) : Nat × AV) :: ((13, .int (x : Int)) : Nat × AV) :: σ) (fun R x => R) (fun x => x ≤ z.stages.length ∧ ∀ i (h : i < z.stages.length), i < x → Pn.badF z.stages[i] = false) (fun x => z.stages.length - x) 0 (by exact Weak.of2 (by (repeat (first | exact .nil _ | refine .cons rfl (by exact AV.Imp.refl _) ?_)); done) (by (repeat (exact .refl _)); done)) ⟨Nat.zero_le _, by omega⟩ ?_
 rintro k ⟨hk, hinv⟩
 refine asr ?_
 refine sS ?_
 refine aops_nil ?_
 refine awp_seq ?_
 refine awp_cond rfl (fun h1 => ?_) (fun h1 => ?_)
 ·
  simp only [nf] at h1
  have hkl : k < z.stages.length := by omega
  refine awp_skip ?_
  refine awp_seq ?_
  refine awp_block ?_
  refine awp_seq ?_
  have hgk : z.stages.getD k default = z.stages[k] := by rw [List.getD, List.getElem?_eq_getElem (by omega), Option.getD_some]
  refine awp_region ?_
  refine st_p (fun _ => by exact y_indexMap (.plain rfl) (.plain rfl) rfl (by refine ⟨?_, ?_⟩; (omega); rfl)) rfl ?_
  refine sV ?_
  refine sC fun n7 => ?_
  refine st_s (fun _ => by exact y_storeW (by rfl) rfl (.plain rfl) (.plain rfl) (by exact .here) (by rfl)) ?_
  refine aops_nil ?_
  refine asr ?_
  refine sM ?_
  refine sF ?_
  refine sL .here ?_
  refine sN ?_
  refine st_p (fun _ => by exact y_addw (.plain rfl) (.plain rfl)) rfl ?_
  refine sA ?_
  refine aops_nil ?_
  refine asr ?_
  refine sF ?_
  refine sL .here ?_
  refine sG ?_
  refine sM ?_
  refine gF ?_
  refine gL0 .here ?_
  refine gQ0 ?_
  refine sJ ?_
  refine aops_nil ?_
  refine awp_cond rfl (fun h2 => ?_) (fun h2 => ?_)
  ·
   simp only [nf] at h2
   have hbk : Pn.badF z.stages[k] = true := by rw [Pn.badF]; simpa using h2
   refine asr ?_
   refine sA ?_
   refine aops_nil ?_
   refine awp_ret ?_
   refine retG (.inr rfl) (.cons (.tmp rfl) .nil) (VShift.of1 (AV.Imp.refl _) (.nil _)) ⟨congrArg (fun x : (Bool) => (AV.bool x)) (show _ = (Pn.fineM z L) from ?_), rfl⟩
   rw [Pn.fineM, List.any_eq_true.2 ⟨_, List.getElem_mem hkl, hbk⟩]; simp
  ·
   simp only [nf] at h2
   have hbk : Pn.badF z.stages[k] = false := by rw [Pn.badF, Bool.and_eq_false_iff, decide_eq_false_iff_not, decide_eq_false_iff_not]; omega
   refine awp_skip ?_
   refine awp_region ?_
   refine sY ?_ (hb := by omega)
   refine sM ?_
   refine aops_nil ?_
   refine ⟨k + 1, ⟨by omega, fun i hi hik => ?_⟩, by omega, ?_⟩
   ·
    by_cases e : i = k
    ·
     subst e; exact hbk
    ·
     exact hinv i hi (by omega)
   ·
    rw [Pn.itW, hgk]
    exact Weak.of2 (by (repeat (first | exact .nil _ | refine .cons rfl (by exact AV.Imp.refl _) ?_)); done) (by (repeat (first | exact .nil _ | apply ItLe2.cons (by exact k1))); done)
 ·
  simp only [nf] at h1
  obtain rfl : k = z.stages.length := by omega
  have hst : z.stages.any Pn.badF = false := List.any_eq_false.2 fun y hy => by
   obtain ⟨i, hi, rfl⟩ := List.getElem_of_mem hy
   rw [hinv i hi hi]; decide
  refine awp_exit ?_
  refine awp_seq ?_
  refine asr ?_
  refine sM ?_
  refine sN ?_
  refine sM ?_
  refine aops_nil ?_
  refine awp_block ?_
  refine awp_loop2 (X := Nat) [2, 5, 31, 32] (.cons rfl (.cons rfl (.cons rfl (.cons rfl .nil)))) (fun σ x => ((33, .int (x : Int)) : Nat × AV) :: σ) (fun R x => R) (fun x => x ≤ L.length ∧ ∀ i (h : i < L.length), i < x → L[i].length ≤ 60) (fun x => L.length - x) 0 (by exact Weak.of2 (by (repeat (first | exact .nil _ | refine .cons rfl (by exact AV.Imp.refl _) ?_)); done) (by (repeat (exact .refl _)); done)) ⟨Nat.zero_le _, by omega⟩ ?_
  rintro j ⟨hj, hinw⟩
  refine asr ?_
  refine sS ?_
  refine aops_nil ?_
  refine awp_seq ?_
  refine awp_cond rfl (fun h3 => ?_) (fun h3 => ?_)
  ·
   simp only [nf] at h3
   have hjl : j < L.length := by omega
   refine awp_skip ?_
   refine awp_seq ?_
   refine awp_block ?_
   refine asr ?_
   refine st_p (fun _ => by exact y_indexMap (.plain rfl) (.plain rfl) rfl (by refine ⟨?_, ?_⟩; (omega); rfl)) rfl ?_
   refine sU ?_
   refine sA ?_
   refine aops_nil ?_
   refine asr ?_
   refine sM ?_
   refine sN ?_
   refine sG ?_
   refine aops_nil ?_
   refine awp_cond rfl (fun h4 => ?_) (fun h4 => ?_)
   ·
    simp only [nf] at h4
    refine asr ?_
    refine sA ?_
    refine aops_nil ?_
    refine awp_ret ?_
    refine retG (.inr rfl) (.cons (.tmp rfl) .nil) (VShift.of1 (AV.Imp.refl _) (.nil _)) ⟨congrArg (fun x : (Bool) => (AV.bool x)) (show _ = (Pn.fineM z L) from ?_), rfl⟩
    have hLt : (L.any fun m => decide (60 < m.length)) = true := List.any_eq_true.2 ⟨_, List.getElem_mem hjl, by simp; omega⟩
    rw [Pn.fineM, hLt]; simp
   ·
    simp only [nf] at h4
    refine awp_skip ?_
    refine awp_region ?_
    refine sY ?_ (hb := by omega)
    refine sM ?_
    refine aops_nil ?_
    refine ⟨j + 1, ⟨by omega, fun i hi hik => ?_⟩, by omega, ?_⟩
    ·
     by_cases e : i = j
     ·
      subst e; omega
     ·
      exact hinw i hi (by omega)
    ·
     exact Weak.of2 (by (repeat (first | exact .nil _ | refine .cons rfl (by exact AV.Imp.refl _) ?_)); done) (by (repeat (exact .refl _)); done)
  ·
   simp only [nf] at h3
   have hLL : (L.any fun m => decide (60 < m.length)) = false := List.any_eq_false.2 fun y hy => by
    obtain ⟨i, hi, rfl⟩ := List.getElem_of_mem hy
    have := hinw i hi (by omega)
    simp; omega
   refine awp_exit ?_
   refine asr ?_
   refine sW .here ?_
   refine aops_call (blt_lt rfl) (.plain rfl) (.cons (.imp (.plain rfl) (AV.Imp.agg (RowOf.imp (enc := encPl)))) .nil) (ACalls.here (greatP_c z) ?_)
   refine sO ?_
   refine sM ?_
   refine gM ?_
   refine gH0 ?_
   refine sJ ?_
   refine sM ?_
   refine gF ?_
   refine gL0 .here ?_
   refine gN0 ?_
   refine gH0 ?_
   refine sJ ?_
   refine sM ?_
   refine gW .here ?_
   refine st_g rfl rfl rfl SaysI.out (fun hc _ => by exact y_call (.plain rfl) (.cons (.imp (.opt rfl hc) (AV.Imp.agg (RowOf.imp (enc := encPl)))) .nil) (ACalls.pure (pchk_c z))) rfl ?_
   refine gQ0 ?_
   refine sJ ?_
   refine sA ?_
   refine aops_nil ?_
   refine awp_ret ?_
   refine retG (.inr rfl) (.cons (.tmp rfl) .nil) (VShift.of1 (AV.Imp.refl _) (.nil _)) ⟨congrArg (fun x : (Bool) => (AV.bool x)) (show _ = (Pn.fineM z L) from ?_), rfl⟩
   rw [Pn.fineM, hst, hLL, show decide (z.stages.length ≤ 12) = decide ((z.stages.length : Int) ≤ 12) from decide_eq_decide.2 (by omega)]
   simp
theorem same51_c (a b : List Int) (ha : a.length ≤ 1000000) : ACalls Tryz.prog 34 [(AV.sl 1 (List.map Go.Aw.encI a)), (AV.sl 1 (List.map Go.Aw.encI b))] [] (fun v st => v = (AV.bool (decide (a = b))) ∧ st = []) := by
 refine acalls_body Tryz.func34 (by kernel_rfl) rfl Tryz.ntmps34 (le_ rfl) ?_
 rw [Tryz.results34]
 refine asr ?_
 refine sA ?_
 refine aops_nil ?_
 refine awp_seq ?_
 refine asr ?_
 refine sM ?_
 refine sN ?_
 refine sM ?_
 refine sN ?_
 refine sR ?_
 refine aops_nil ?_
 refine awp_cond rfl (fun h1 => ?_) (fun h1 => ?_)
 ·
  simp only [nf] at h1
  refine asr ?_
  refine sA ?_
  refine aops_nil ?_
  refine awp_ret ?_
  refine retG (.inr rfl) (.cons (.tmp rfl) .nil) (VShift.of1 (AV.Imp.refl _) (.nil _)) ⟨congrArg (fun x : (Bool) => (AV.bool x)) (show _ = (decide (a = b)) from ?_), rfl⟩
  rw [eq_comm, decide_eq_false_iff_not]; rintro rfl; exact h1 rfl
 ·
  simp only [nf] at h1
  refine awp_skip ?_
  refine awp_seq ?_
  refine asr ?_
  refine sA ?_
  refine aops_nil ?_
  refine awp_block ?_
  refine awp_loop2 (X := Nat) [0, 1] (.cons rfl (.cons rfl .nil)) (fun σ x => ((5, .int (x : Int)) : Nat × AV) :: σ) (fun R x => R) (fun x => x ≤ a.length ∧ (∀ i (h : i < a.length) (h2 : i < b.length), i < x → a[i] = b[i])) (fun x => a.length - x) 0 (by exact Weak.of2 (by (repeat (first | exact .nil _ | refine .cons rfl (by exact AV.Imp.refl _) ?_)); done) (by (repeat (exact .refl _)); done)) ⟨Nat.zero_le _, by omega⟩ ?_
  rintro k ⟨hk, hinv⟩
  try have hab : a.length = b.length := by omega
  refine awp_seq ?_
  refine asr ?_
  refine sM ?_
  refine sM ?_
  refine sN ?_
  refine sS ?_
  refine aops_nil ?_
  refine awp_cond rfl (fun h2 => ?_) (fun h2 => ?_)
  ·
   simp only [nf] at h2
   refine awp_skip ?_
   refine awp_seq ?_
   refine awp_block ?_
   refine awp_seq ?_
   refine awp_any0 (ks := [.free, .free, .free, .free, .free, .free, .free, .free, .free]) (by kernel_rfl) (fun K => ?_) ?_
   ·
    have hkb : k < b.length := by omega
    refine rM ?_
    refine rM ?_
    refine dr_p (fun _ => by exact y_indexMap (.plain rfl) (.plain rfl) rfl (by refine ⟨?_, ?_⟩; (omega); rfl)) rfl ?_
    refine rU ?_
    refine rM ?_
    refine rM ?_
    refine dr_p (fun _ => by exact y_indexMap (.plain rfl) (.plain rfl) rfl (by refine ⟨?_, ?_⟩; (omega); rfl)) rfl ?_
    refine rU ?_
    refine rR ?_
    refine dr_nil ⟨rfl, ?_⟩
    refine awp_cond rfl (fun h3 => ?_) (fun h3 => ?_)
    ·
     simp only [nf] at h3
     refine asr ?_
     refine sA ?_
     refine aops_nil ?_
     refine awp_ret ?_
     refine retG (.inr rfl) (.cons (.tmp rfl) .nil) (VShift.of1 (AV.Imp.refl _) (.nil _)) ⟨congrArg (fun x : (Bool) => (AV.bool x)) (show _ = (decide (a = b)) from ?_), rfl⟩
     rw [eq_comm, decide_eq_false_iff_not]; rintro rfl; exact h3 rfl
    ·
     simp only [nf] at h3
     refine awp_skip ?_
     refine awp_region ?_
     refine sM ?_
     refine sY ?_ (hb := by omega)
     refine sA ?_
     refine aops_nil ?_
     refine ⟨k + 1, ?_, ?_, Weak.of2 (by (repeat (first | exact .nil _ | refine .cons rfl (by exact AV.Imp.refl _) ?_)); done) (by (repeat (exact .refl _)); done)⟩
     ·
      refine ⟨by omega, ?_⟩
      intro i hi hi2 hik
      by_cases e : i = k
      ·
       subst e; exact h3
      ·
       exact hinv i hi hi2 (by omega)
     ·
      omega
   ·
    kernel_rfl
  ·
   simp only [nf] at h2
   refine awp_exit ?_
   refine asr ?_
   refine sA ?_
   refine aops_nil ?_
   refine awp_ret ?_
   refine retG (.inr rfl) (.cons (.tmp rfl) .nil) (VShift.of1 (AV.Imp.refl _) (.nil _)) ⟨congrArg (fun x : (Bool) => (AV.bool x)) (show _ = (decide (a = b)) from ?_), rfl⟩
   rw [eq_comm, decide_eq_true_iff]; exact List.ext_getElem (by omega) fun i p q => hinv i p q (by omega)
theorem sameLL_c (a b : List (List Int)) (ha : a.length ≤ 1000000) (hal : ∀ l ∈ a, l.length ≤ 1000000) : ACalls Tryz.prog 16 [(AV.sl 1 (List.map encLI a)), (AV.sl 1 (List.map encLI b))] [] (fun v st => v = (AV.bool (decide (a = b))) ∧ st = []) := by
 refine acalls_body Tryz.func16 (by kernel_rfl) rfl Tryz.ntmps16 (le_ rfl) ?_
 rw [Tryz.results16]
 refine asr ?_
 refine sA ?_
 refine aops_nil ?_
 refine awp_seq ?_
 refine asr ?_
 refine sM ?_
 refine sN ?_
 refine sM ?_
 refine sN ?_
 refine sR ?_
 refine aops_nil ?_
 refine awp_cond rfl (fun h1 => ?_) (fun h1 => ?_)
 ·
  simp only [nf] at h1
  refine asr ?_
  refine sA ?_
  refine aops_nil ?_
  refine awp_ret ?_
  refine retG (.inr rfl) (.cons (.tmp rfl) .nil) (VShift.of1 (AV.Imp.refl _) (.nil _)) ⟨congrArg (fun x : (Bool) => (AV.bool x)) (show _ = (decide (a = b)) from ?_), rfl⟩
  rw [eq_comm, decide_eq_false_iff_not]; rintro rfl; exact h1 rfl
 ·
  simp only [nf] at h1
  refine awp_skip ?_
  refine awp_seq ?_
  refine asr ?_
  refine sA ?_
  refine aops_nil ?_
  refine awp_block ?_
  refine awp_loop2 (X := Nat) [0, 1] (.cons rfl (.cons rfl .nil)) (fun σ x => ((5, .int (x : Int)) : Nat × AV) :: σ) (fun R x => R) (fun x => x ≤ a.length ∧ (∀ i (h : i < a.length) (h2 : i < b.length), i < x → a[i] = b[i])) (fun x => a.length - x) 0 (by exact Weak.of2 (by (repeat (first | exact .nil _ | refine .cons rfl (by exact AV.Imp.refl _) ?_)); done) (by (repeat (exact .refl _)); done)) ⟨Nat.zero_le _, by omega⟩ ?_
  rintro k ⟨hk, hinv⟩
  try have hab : a.length = b.length := by omega
  refine awp_seq ?_
  refine asr ?_
  refine sM ?_
  refine sM ?_
  refine sN ?_
  refine sS ?_
  refine aops_nil ?_
  refine awp_cond rfl (fun h2 => ?_) (fun h2 => ?_)
  ·
   simp only [nf] at h2
   refine awp_skip ?_
   refine awp_seq ?_
   refine awp_block ?_
   refine awp_seq ?_
   have hkb : k < b.length := by omega
   refine awp_any0 (ks := [.free, .free, .free, .free, .free, .free, .free, .free, .free, .free]) (by kernel_rfl) (fun K => ?_) ?_
   ·
    refine rM ?_
    refine rM ?_
    refine dr_p (fun _ => by exact y_indexMap (.plain rfl) (.plain rfl) rfl (by refine ⟨?_, ?_⟩; (omega); rfl)) rfl ?_
    refine rU ?_
    refine rM ?_
    refine rM ?_
    refine dr_p (fun _ => by exact y_indexMap (.plain rfl) (.plain rfl) rfl (by refine ⟨?_, ?_⟩; (omega); rfl)) rfl ?_
    refine rU ?_
    refine dr_p (fun _ => by exact y_call (.plain rfl) (.cons (.imp (.plain rfl) (Sl.imp (enc := Go.Aw.encI))) (.cons (.imp (.plain rfl) (Sl.imp (enc := Go.Aw.encI))) .nil)) (ACalls.pure (same51_c a[k] b[k] (hal _ (List.getElem_mem h2))))) rfl ?_
    refine rO ?_
    refine dr_nil ⟨rfl, ?_⟩
    refine awp_cond rfl (fun h3 => ?_) (fun h3 => ?_)
    ·
     simp only [nf] at h3
     refine asr ?_
     refine sA ?_
     refine aops_nil ?_
     refine awp_ret ?_
     refine retG (.inr rfl) (.cons (.tmp rfl) .nil) (VShift.of1 (AV.Imp.refl _) (.nil _)) ⟨congrArg (fun x : (Bool) => (AV.bool x)) (show _ = (decide (a = b)) from ?_), rfl⟩
     rw [eq_comm, decide_eq_false_iff_not]; rintro rfl; simp at h3
    ·
     simp only [nf] at h3
     refine awp_skip ?_
     refine awp_region ?_
     refine sM ?_
     refine sY ?_ (hb := by omega)
     refine sA ?_
     refine aops_nil ?_
     refine ⟨k + 1, ?_, ?_, Weak.of2 (by (repeat (first | exact .nil _ | refine .cons rfl (by exact AV.Imp.refl _) ?_)); done) (by (repeat (exact .refl _)); done)⟩
     ·
      refine ⟨by omega, ?_⟩
      intro i hi hi2 hik
      by_cases e : i = k
      ·
       subst e; simpa using h3
      ·
       exact hinv i hi hi2 (by omega)
     ·
      omega
   ·
    kernel_rfl
  ·
   simp only [nf] at h2
   refine awp_exit ?_
   refine asr ?_
   refine sA ?_
   refine aops_nil ?_
   refine awp_ret ?_
   refine retG (.inr rfl) (.cons (.tmp rfl) .nil) (VShift.of1 (AV.Imp.refl _) (.nil _)) ⟨congrArg (fun x : (Bool) => (AV.bool x)) (show _ = (decide (a = b)) from ?_), rfl⟩
   rw [eq_comm, decide_eq_true_iff]; exact List.ext_getElem (by omega) fun i p q => hinv i p q (by omega)
theorem cloneSg_c (l : List Pn.Sg) (hn : l ≠ []) (hl : l.length ≤ 1000000) : ACalls Tryz.prog 12 [.sl 8 (l.map encSg)] [] (fun v st => ∃ j pad, v = .arr j 0 l.length ∧ st = [.cells j ((l.map encSg).flatten ++ pad)]) := by
 refine acalls_body Tryz.func12 (by kernel_rfl) rfl Tryz.ntmps12 (le_ rfl) ?_
 rw [Tryz.results12]
 refine asr ?_
 refine sA ?_
 refine aops_nil ?_
 refine awp_seq ?_
 refine asr ?_
 refine sM ?_
 refine st_p (fun _ => by exact y_eqNilF (.plain rfl) (by simpa using hn)) rfl ?_
 refine aops_nil ?_
 refine awp_cond rfl (fun h1 => ?_) (fun h1 => ?_)
 ·
  cases h1
 ·
  simp only [nf] at h1
  refine awp_skip ?_
  refine asr ?_
  refine st_p (fun _ => by exact y_buildSlice .nil rfl (le_ rfl)) rfl ?_
  refine sM ?_
  refine st_appendArr (by rfl) (by rfl) (.plain rfl) (.plain rfl) (by simpa using hn) (by simp; omega) rfl fun nj pad => ?_
  refine sA ?_
  refine aops_nil ?_
  refine awp_ret ?_
  exact retG (.inr rfl) (.cons (.tmp rfl) .nil) VShift.refl ⟨nj, pad, by rw [List.length_map]; rfl, rfl⟩
theorem rest_c (z : Pn.Pl) (s : Pn.Fs) (hx : Pn.Pok z) (hs : Pn.Fsz s) : ACalls Tryz.prog 41 [(AV.agg (encPl z)), (AV.agg (encFs s))] [] (fun v st => v = (AV.agg (encPl (Pn.prest z s))) ∧ st = []) := by
 refine acalls_body Tryz.func41 (by kernel_rfl) rfl Tryz.ntmps41 (le_ rfl) ?_
 rw [Tryz.results41]
 have hxn := hx.n
 have hs1 := hs.st
 refine asr ?_
 refine sB fun n2 => ?_
 refine sB fun n3 => ?_
 refine sC fun n4 => ?_
 refine aops_nil ?_
 refine asr ?_
 refine sF ?_
 refine sL k2 ?_
 refine aops_call (blt_lt rfl) (.plain rfl) (.cons (.plain rfl) .nil) (ACalls.updP (its := []) (.nil _) (cloneSg_c z.stages (by rintro e9; rw [e9] at hxn; simp at hxn) (by omega)) ?_)
 rintro v st ⟨nj, pad, rfl, rfl⟩
 refine sF ?_
 refine st_storeN (cs' := [_, _]) (by rfl) rfl (.plain rfl) (.plain rfl) (by exact u3) (le_ rfl) (by rfl) ?_
 refine aops_nil ?_
 refine awp_seq ?_
 refine asr ?_
 refine sF ?_
 refine sL k3 ?_
 refine st_p (fun _ => by exact y_lenArr (.plain rfl)) rfl ?_
 refine sM ?_
 refine aops_nil ?_
 refine awp_block ?_
 refine awp_loop2 (X := Nat) [2, 3, 4, 12, 13] (.cons rfl (.cons rfl (.cons rfl (.cons rfl (.cons rfl .nil))))) (fun σ x => ((14, .int (x : Int)) : Nat × AV) :: σ) (fun R x => .cells nj (((Pn.restK z s x).map encSg).flatten ++ pad) :: R) (fun x => x ≤ z.stages.length) (fun x => z.stages.length - x) 0 (by exact Weak.of2 (by (repeat (first | exact .nil _ | refine .cons rfl (by exact AV.Imp.refl _) ?_)); done) (by (repeat (exact .refl _)); done)) (Nat.zero_le _) ?_
 rintro k hk
 refine asr ?_
 refine sS ?_
 refine aops_nil ?_
 refine awp_seq ?_
 refine awp_cond rfl (fun h1 => ?_) (fun h1 => ?_)
 ·
  simp only [nf] at h1
  have hkl : k < z.stages.length := by omega
  refine awp_skip ?_
  refine awp_seq ?_
  refine awp_block ?_
  refine awp_seq ?_
  have hkL : k < (Pn.restK z s k).length := by rw [Pn.restK_len]; exact hkl
  obtain ⟨YK, hYK⟩ : ∃ y, z.stages[k] = y := ⟨_, rfl⟩
  have hYl : YK.items.length ≤ 200 := by rw [← hYK]; exact (Pn.sgchk_ok (hx.sg _ (List.getElem_mem hkl))).len
  have hgd : (Pn.restK z s k).getD k default = YK := by rw [Pn.restK_get z s k k (Nat.le_refl _), List.getD, List.getElem?_eq_getElem hkl, Option.getD_some, hYK]
  have hgL : (Pn.restK z s k)[k] = YK := by rw [List.getD, List.getElem?_eq_getElem hkL, Option.getD_some] at hgd; exact hgd
  refine awp_region ?_
  refine sM ?_
  refine st_p (fun _ => by exact y_indexArr (.plain rfl) (.plain rfl) rfl (by omega)) rfl ?_
  refine st_p (fun _ => by exact y_loadRow (f := encSg) (L := (Pn.restK z s k)) (e := YK) (pad := pad) (j := nj) (fun _ => rfl) (.plain rfl) (by exact .here) ⟨hkL, hgL⟩) rfl ?_
  refine sC fun n6 => ?_
  refine sA ?_
  refine st_s (fun _ => by exact y_storeW (by rfl) rfl (.plain rfl) (.plain rfl) (by exact .here) (by rfl)) ?_
  refine aops_nil ?_
  refine awp_seq ?_
  refine awp_any0 (ks := [.free, .free, .free, .free, .free, .free, .free, .free, .free, .free, .free, .free, .free, .free, .free, .free, .free, .free, .free, .free, .free, .free, .free, .free, .free, .free, .free, .free, .free, .free, .free]) (by kernel_rfl) (fun K => ?_) ?_
  ·
   refine rF ?_
   refine rL .here ?_
   refine rQ ?_
   refine rM ?_
   refine qM ?_
   refine qF ?_
   refine qL0 k3 ?_
   refine qN0 ?_
   refine qS01 ?_
   refine rJ ?_
   refine rM ?_
   refine qF ?_
   refine qL0 k3 ?_
   refine qM ?_
   refine dr_g rfl rfl rfl SaysI.out (fun hc _ => by exact y_indexT (l := s.stages) (.opt rfl hc) (.opt rfl hc) (by omega) (by simp at hc; omega)) rfl ?_
   refine dr_g rfl rfl rfl SaysI.out (fun hc _ => by exact y_fieldE (.opt rfl hc) (le_ rfl)) rfl ?_
   refine qU0 ?_
   refine dr_g rfl rfl rfl SaysI.out (fun hc _ => by exact y_geq (.opt rfl hc) (.plain rfl)) rfl ?_
   refine rJ ?_
   refine rM ?_
   refine qF ?_
   refine qL0 k3 ?_
   refine qM ?_
   refine dr_g rfl rfl rfl SaysI.out (fun hc _ => by exact y_indexT (l := s.stages) (.opt rfl hc) (.opt rfl hc) (by omega) (by simp at hc; omega)) rfl ?_
   refine dr_g rfl rfl rfl SaysI.out (fun hc _ => by exact y_fieldE (.opt rfl hc) (le_ rfl)) rfl ?_
   refine qU0 ?_
   refine qF ?_
   refine qL0 .here ?_
   refine qN0 ?_
   refine qH01 ?_
   refine rJ ?_
   refine dr_nil ⟨rfl, ?_⟩
   refine awp_cond rfl (fun h2 => ?_) (fun h2 => ?_)
   ·
    simp only [nf] at h2
    have hcd : YK.kind = 1 ∧ k < s.stages.length ∧ 0 ≤ (Pn.sst s (k : Int)).count ∧ (Pn.sst s (k : Int)).count ≤ (YK.items.length : Int) := by simpa [Pn.sst, and_assoc] using h2
    refine awp_anyT (ks := [.free, .free, .free, .free, .free, .free, .free, .free, .free, .free, .free, .free, .free, .free, .free, .write]) [.cells nj _] (by apply Takes.cons (by exact k1); exact .nil _) (by kernel_rfl) (fun K => ?_) ?_
    ·
     refine rF ?_
     refine rL k3 ?_
     refine rM ?_
     refine rF ?_
     refine rL .here ?_
     refine rF ?_
     refine rL k2 ?_
     refine rM ?_
     refine dr_p (fun _ => by exact y_indexT (l := s.stages) (.plain rfl) (.plain rfl) (by omega) (by omega)) rfl ?_
     refine dr_p (fun _ => by exact y_fieldE (.plain rfl) (le_ rfl)) rfl ?_
     refine rU ?_
     refine dr_p (fun _ => by exact y_sliceLoM (l := (Pn.sst s (k : Int)).count.toNat) (.plain rfl) (.plain rfl) (Int.toNat_of_nonneg hcd.2.2.1).symm (by omega)) rfl ?_
     refine dr_p (fun _ => by exact y_call (.plain rfl) (.cons (.plain rfl) .nil) (ACalls.pure (cloneI_c (YK.items.drop (Pn.sst s (k : Int)).count.toNat) (by rw [List.length_drop]; omega)))) rfl ?_
     refine dr_p (fun _ => by exact y_indexArr (.plain rfl) (.plain rfl) rfl (by omega)) rfl ?_
     refine rF ?_
     refine dr_s (fun _ => by exact y_store (by rfl) rfl (.plain rfl) (.plain rfl) (by exact .here) (by rw [List.length_append, sgrow_len, Pn.restK_len]; simp; omega)) ?_
     refine dr_nil ?_
     rw [sgrow_set _ hkL]
     refine awp_region ?_
     refine sY ?_ (hb := by omega)
     refine sM ?_
     refine aops_nil ?_
     refine ⟨k + 1, by omega, by omega, ?_⟩
     rw [Pn.restK_t (by rw [hgd]; exact hcd), hgd]
     exact Weak.of2 (by (repeat (first | exact .nil _ | refine .cons rfl (by exact AV.Imp.refl _) ?_)); done) (by (repeat (first | exact .nil _ | apply ItLe2.cons (by first | exact .here | exact k1))); done)
    ·
     kernel_rfl
   ·
    simp only [nf] at h2
    have hcd : ¬ (YK.kind = 1 ∧ k < s.stages.length ∧ 0 ≤ (Pn.sst s (k : Int)).count ∧ (Pn.sst s (k : Int)).count ≤ (YK.items.length : Int)) := by
     rintro ⟨a9, b9, c9, d9⟩
     simp_all [Pn.sst]
     try omega
    refine awp_skip ?_
    refine awp_region ?_
    refine sY ?_ (hb := by omega)
    refine sM ?_
    refine aops_nil ?_
    refine ⟨k + 1, by omega, by omega, ?_⟩
    rw [Pn.restK_f (by rw [hgd]; exact hcd)]
    exact Weak.of2 (by (repeat (first | exact .nil _ | refine .cons rfl (by exact AV.Imp.refl _) ?_)); done) (by (repeat (first | exact .nil _ | apply ItLe2.cons (by exact k1))); done)
  ·
   kernel_rfl
 ·
  simp only [nf] at h1
  refine awp_exit ?_
  refine awp_seq ?_
  refine awp_weak (Weak.freezeC (a := n2) (j := nj) (i := 0) (sz := 8) (pad := pad) ?fa1 ?fb1 (.cons (by exact .here) (.cons (by exact k2) (.nil _)))) ?fc1
  case fa1 => intro x hx; obtain ⟨b, _, rfl⟩ := List.mem_map.1 hx; rfl
  case fb1 => simp [Pn.restK_len]; done
  simp only [List.set_cons_zero, List.set_cons_succ]
  refine awp_region ?_
  refine sW .here ?_
  refine st_s (fun _ => by exact y_storeW (by rfl) rfl (.plain rfl) (.plain rfl) (by exact u1) (by rfl)) ?_
  refine aops_nil ?_
  refine awp_ret ?_
  refine retG (.inr rfl) (.cons (res_cellW rfl (by exact k1) (by rfl)) .nil) (VShift.of1 (AV.Imp.agg (RowOf.imp (enc := encPl))) (.nil _)) ⟨congrArg (fun x : (Pn.Pl) => (AV.agg (encPl x))) (show _ = (Pn.prest z s) from ?_), rfl⟩
  obtain rfl : k = z.stages.length := by omega
  rfl
instance {a b c d e : Int} {n : ByteArray} {u v : AV} {l : List Pn.Ex} {m : List Int} [h : Sl u 5 encE l] [k : Sl v 1 Go.Aw.encI m] : RowOf [.val (.int .i64 a), .val (.int .i64 b), .val (.int .i64 c), .val (.int .i64 d), .val (.string n), .val (.int .i64 e), u, v] encSg ⟨a, b, .mk c d n e l, m⟩ :=
 ⟨.cons (AV.Imp.refl _) (.cons (AV.Imp.refl _) (.cons (AV.Imp.refl _) (.cons (AV.Imp.refl _) (.cons (AV.Imp.refl _) (.cons (AV.Imp.refl _) (.cons (h.imp.trans (AV.Imp.of_eq (by rw [← encExs_map]; rfl))) (.cons k.imp .nil)))))))⟩
theorem split_c (z : Pn.Pl) (l m : List Int) (n : Int) (hz : z.stages.length ≤ 1000000 ∧ z.pipes.length ≤ 1000000) (hl : l.length ≤ 1000000) (hm : m.length ≤ 1000000) : ACalls Tryz.prog 19 [(AV.agg (encPl z)), (AV.sl 1 (List.map Go.Aw.encI l)), (AV.sl 1 (List.map Go.Aw.encI m)), (AV.int n)] [] (fun v st => v = (AV.tup [(AV.sl 1 (List.map encLI ((Pn.psplit z l m n).1))), (AV.sl 1 (List.map encLI ((Pn.psplit z l m n).2.1))), (AV.bool ((Pn.psplit z l m n).2.2))]) ∧ st = []) := by
 refine acalls_body Tryz.func19 (by kernel_rfl) rfl Tryz.ntmps19 (le_ rfl) ?_
 rw [Tryz.results19]
 have hs1 := Pn.prun_sz z (Pn.pnew z).1 l n
 have hs2 := Pn.pbegin_sz (x := z) hs1
 have hs3 := Pn.prun_sz z (Pn.pbegin z (Pn.prun z (Pn.pnew z).1 l n).1).1 m 5000
 have hs4 := Pn.pnew_sz (Pn.prest z (Pn.prun z (Pn.pnew z).1 l n).1)
 have hs5 := Pn.prun_sz (Pn.prest z (Pn.prun z (Pn.pnew z).1 l n).1) (Pn.pnew (Pn.prest z (Pn.prun z (Pn.pnew z).1 l n).1)).1 l 5000
 have hyz : (Pn.prest z (Pn.prun z (Pn.pnew z).1 l n).1).stages.length ≤ 1000000 ∧ (Pn.prest z (Pn.prun z (Pn.pnew z).1 l n).1).pipes.length ≤ 1000000 := ⟨by show (Pn.restK z _ _).length ≤ _; rw [Pn.restK_len]; exact hz.1, hz.2⟩
 refine asr ?_
 refine sB fun n4 => ?_
 refine sA ?_
 refine sA ?_
 refine sA ?_
 refine aops_nil ?_
 refine asr ?_
 refine sW .here ?_
 refine aops_call (blt_lt rfl) (.plain rfl) (.cons (.imp (.plain rfl) (AV.Imp.agg (RowOf.imp (enc := encPl)))) .nil) (ACalls.here (pnew_c z hz) ?_)
 refine sM ?_
 refine sE ?_
 refine sE ?_
 refine sC fun n11 => ?_
 refine st_s (fun _ => by exact y_storeW (by rfl) rfl (.plain rfl) (.plain rfl) (by exact .here) (by rfl)) ?_
 refine sA ?_
 refine aops_nil ?_
 refine asr ?_
 refine sW k1 ?_
 refine sW .here ?_
 refine sM ?_
 refine sM ?_
 refine aops_call (blt_lt rfl) (.plain rfl) (.cons (.imp (.plain rfl) (AV.Imp.agg (RowOf.imp (enc := encPl)))) (.cons (.imp (.plain rfl) (AV.Imp.agg (RowOf.imp (enc := encFs)))) (.cons (.imp (.plain rfl) (Sl.imp (enc := Go.Aw.encI))) (.cons (.plain rfl) .nil)))) (ACalls.here (run_c z (Pn.pnew z).1 l n hz (Pn.pnew_sz z) hl) ?_)
 refine sM ?_
 refine sE ?_
 refine sE ?_
 refine sE ?_
 refine st_s (fun _ => by exact y_storeW (by rfl) rfl (.plain rfl) (.plain rfl) (by exact .here) (by rfl)) ?_
 refine sA ?_
 refine sA ?_
 refine aops_nil ?_
 refine awp_seq ?_
 refine asr ?_
 refine sM ?_
 refine sR ?_
 refine sM ?_
 refine gM ?_
 refine gR0 ?_
 refine sK ?_
 refine aops_nil ?_
 refine awp_cond rfl (fun h1 => ?_) (fun h1 => ?_)
 ·
  simp only [nf] at h1
  have hc9 : (Pn.pnew z).2 ≠ 0 ∨ (Pn.prun z (Pn.pnew z).1 l n).2.2 ≠ 0 := h1
  refine asr ?_
  refine sA ?_
  refine sA ?_
  refine sA ?_
  refine aops_nil ?_
  refine awp_ret ?_
  refine retG (.inr rfl) (.cons (.tmp rfl) (.cons (.tmp rfl) (.cons (.tmp rfl) .nil))) (VShift.of2 (AV.Imp.tup (.cons (Sl.imp (enc := encLI)) (.cons (Sl.imp (enc := encLI)) (.cons (AV.Imp.refl _) .nil)))) (.nil _)) ⟨congrArg (fun x : (List (List Int)) × (List (List Int)) × (Bool) => (AV.tup [(AV.sl 1 (List.map encLI x.1)), (AV.sl 1 (List.map encLI x.2.1)), (AV.bool x.2.2)])) (show (_, _, _) = (Pn.psplit z l m n) from ?_), rfl⟩
  rw [Pn.psplit]
  dsimp only
  rw [if_pos hc9]
  all_goals rfl
 ·
  simp only [nf] at h1
  have hc9 : ¬ ((Pn.pnew z).2 ≠ 0 ∨ (Pn.prun z (Pn.pnew z).1 l n).2.2 ≠ 0) := by
   rintro (e9 | e9)
   ·
    exact e9 h1.1
   ·
    exact e9 h1.2
  have hxz := Pn.pnew_pok (Classical.not_not.1 (fun e => hc9 (.inl e)))
  refine awp_skip ?_
  refine asr ?_
  refine sW k1 ?_
  refine sW .here ?_
  refine aops_call (blt_lt rfl) (.plain rfl) (.cons (.imp (.plain rfl) (AV.Imp.agg (RowOf.imp (enc := encPl)))) (.cons (.imp (.plain rfl) (AV.Imp.agg (RowOf.imp (enc := encFs)))) .nil)) (ACalls.here (begin2_c z (Pn.prun z (Pn.pnew z).1 l n).1 hz hs1) ?_)
  refine sM ?_
  refine sE ?_
  refine sE ?_
  refine sC fun n15 => ?_
  refine st_s (fun _ => by exact y_storeW (by rfl) rfl (.plain rfl) (.plain rfl) (by exact .here) (by rfl)) ?_
  refine sA ?_
  refine aops_nil ?_
  refine asr ?_
  refine sW k2 ?_
  refine sW .here ?_
  refine sM ?_
  refine aops_call (blt_lt rfl) (.plain rfl) (.cons (.imp (.plain rfl) (AV.Imp.agg (RowOf.imp (enc := encPl)))) (.cons (.imp (.plain rfl) (AV.Imp.agg (RowOf.imp (enc := encFs)))) (.cons (.imp (.plain rfl) (Sl.imp (enc := Go.Aw.encI))) (.cons (.plain rfl) .nil)))) (ACalls.here (run_c z (Pn.pbegin z (Pn.prun z (Pn.pnew z).1 l n).1).1 m 5000 hz hs2 hm) ?_)
  refine sM ?_
  refine sE ?_
  refine sE ?_
  refine sE ?_
  refine st_s (fun _ => by exact y_storeW (by rfl) rfl (.plain rfl) (.plain rfl) (by exact .here) (by rfl)) ?_
  refine sA ?_
  refine sA ?_
  refine aops_nil ?_
  refine asr ?_
  refine sW k2 ?_
  refine sW k1 ?_
  refine aops_call (blt_lt rfl) (.plain rfl) (.cons (.imp (.plain rfl) (AV.Imp.agg (RowOf.imp (enc := encPl)))) (.cons (.imp (.plain rfl) (AV.Imp.agg (RowOf.imp (enc := encFs)))) .nil)) (ACalls.here (rest_c z (Pn.prun z (Pn.pnew z).1 l n).1 hxz hs1) ?_)
  refine sC fun n19 => ?_
  refine st_s (fun _ => by exact y_storeW (by rfl) rfl (.plain rfl) (.plain rfl) (by exact .here) (by rfl)) ?_
  refine aops_nil ?_
  refine asr ?_
  refine sW .here ?_
  refine aops_call (blt_lt rfl) (.plain rfl) (.cons (.imp (.plain rfl) (AV.Imp.agg (RowOf.imp (enc := encPl)))) .nil) (ACalls.here (pnew_c (Pn.prest z (Pn.prun z (Pn.pnew z).1 l n).1) hyz) ?_)
  refine sM ?_
  refine sE ?_
  refine sE ?_
  refine sC fun n20 => ?_
  refine st_s (fun _ => by exact y_storeW (by rfl) rfl (.plain rfl) (.plain rfl) (by exact .here) (by rfl)) ?_
  refine sA ?_
  refine aops_nil ?_
  refine asr ?_
  refine sW k1 ?_
  refine sW .here ?_
  refine sM ?_
  refine aops_call (blt_lt rfl) (.plain rfl) (.cons (.imp (.plain rfl) (AV.Imp.agg (RowOf.imp (enc := encPl)))) (.cons (.imp (.plain rfl) (AV.Imp.agg (RowOf.imp (enc := encFs)))) (.cons (.imp (.plain rfl) (Sl.imp (enc := Go.Aw.encI))) (.cons (.plain rfl) .nil)))) (ACalls.here (run_c (Pn.prest z (Pn.prun z (Pn.pnew z).1 l n).1) (Pn.pnew (Pn.prest z (Pn.prun z (Pn.pnew z).1 l n).1)).1 l 5000 hyz hs4 hl) ?_)
  refine sM ?_
  refine sE ?_
  refine sE ?_
  refine sE ?_
  refine st_s (fun _ => by exact y_storeW (by rfl) rfl (.plain rfl) (.plain rfl) (by exact .here) (by rfl)) ?_
  refine sA ?_
  refine sA ?_
  refine aops_nil ?_
  refine asr ?_
  refine sM ?_
  refine sQ ?_
  refine sM ?_
  refine gM ?_
  refine gQ0 ?_
  refine sJ ?_
  refine sM ?_
  refine gM ?_
  refine gQ0 ?_
  refine sJ ?_
  refine sM ?_
  refine gM ?_
  refine gQ0 ?_
  refine sJ ?_
  refine sM ?_
  refine gW k4 ?_
  refine gW k2 ?_
  refine st_g rfl rfl rfl SaysI.out (fun hc _ => by exact y_call (.plain rfl) (.cons (.imp (.opt rfl hc) (AV.Imp.agg (RowOf.imp (enc := encPl)))) (.cons (.imp (.opt rfl hc) (AV.Imp.agg (RowOf.imp (enc := encFs)))) .nil)) (ACalls.pure (fin_c z (Pn.prun z (Pn.pbegin z (Pn.prun z (Pn.pnew z).1 l n).1).1 m 5000).1 hz hs3))) rfl ?_
  refine sJ ?_
  refine sM ?_
  refine gW k1 ?_
  refine gW .here ?_
  refine st_g rfl rfl rfl SaysI.out (fun hc _ => by exact y_call (.plain rfl) (.cons (.imp (.opt rfl hc) (AV.Imp.agg (RowOf.imp (enc := encPl)))) (.cons (.imp (.opt rfl hc) (AV.Imp.agg (RowOf.imp (enc := encFs)))) .nil)) (ACalls.pure (fin_c (Pn.prest z (Pn.prun z (Pn.pnew z).1 l n).1) (Pn.prun (Pn.prest z (Pn.prun z (Pn.pnew z).1 l n).1) (Pn.pnew (Pn.prest z (Pn.prun z (Pn.pnew z).1 l n).1)).1 l 5000).1 hyz hs5))) rfl ?_
  refine sJ ?_
  refine sA ?_
  refine aops_nil ?_
  refine awp_seq ?_
  refine awp_any0 (ks := [.free, .free, .free, .free, .free, .free, .free, .free]) (by kernel_rfl) (fun K => ?_) ?_
  ·
   refine rF ?_
   refine rL k2 ?_
   refine rF ?_
   refine rL .here ?_
   refine rM ?_
   refine rA ?_
   refine rA ?_
   refine rA ?_
   refine dr_nil ⟨rfl, ?_⟩
   refine awp_ret ?_
   refine retG (.inr rfl) (.cons (.tmp rfl) (.cons (.tmp rfl) (.cons (.tmp rfl) .nil))) (VShift.of2 (AV.Imp.tup (.cons (Sl.imp (enc := encLI)) (.cons (Sl.imp (enc := encLI)) (.cons (AV.Imp.refl _) .nil)))) (.nil _)) ⟨congrArg (fun x : (List (List Int)) × (List (List Int)) × (Bool) => (AV.tup [(AV.sl 1 (List.map encLI x.1)), (AV.sl 1 (List.map encLI x.2.1)), (AV.bool x.2.2)])) (show (_, _, _) = (Pn.psplit z l m n) from ?_), rfl⟩
   rw [Pn.psplit]
   dsimp only
   rw [if_neg hc9]
   all_goals rfl
  ·
   kernel_rfl
theorem split0_c : ACalls Tryz.prog 19 [.agg (encPl Pn.awX), .sl 1 (([] : List Int).map Go.Aw.encI), .sl 1 (([] : List Int).map Go.Aw.encI), .int 2] [] (fun v st => v = .tup [.sl 1 (([[1, 1, 2, 2]] : List (List Int)).map encLI), .sl 1 (([[3, 3]] : List (List Int)).map encLI), .bool true] ∧ st = []) := by
 have h := split_c Pn.awX [] [] 2 (by decide) (by decide) (by decide)
 rw [Pn.awake] at h
 exact h
theorem awake_c   : ACalls Tryz.prog 6 [] [] (fun v st => v = (AV.bool (true)) ∧ st = []) := by
 refine acalls_body Tryz.func6 (by kernel_rfl) rfl Tryz.ntmps6 (le_ rfl) ?_
 rw [Tryz.results6]
 refine asr ?_
 refine sA ?_
 refine aops_nil ?_
 refine asr ?_
 refine st_p (fun _ => by exact y_buildSlice (.cons (.plain rfl) inferInstance (by rfl) (.cons (.plain rfl) inferInstance (by rfl) (.cons (.plain rfl) inferInstance (by rfl) .nil))) rfl (le_ rfl)) rfl ?_
 refine st_p (fun _ => by exact y_build (out := [_, _, _, _, _, _, _, _]) (.cons (.plain rfl) inferInstance rfl (.cons (.plain rfl) inferInstance rfl .nil)) rfl rfl) rfl ?_
 refine st_p (fun _ => by exact y_build (out := [_, _, _, _, _, _, _, _]) (.cons (.plain rfl) inferInstance rfl (.cons (.plain rfl) inferInstance rfl .nil)) rfl rfl) rfl ?_
 refine st_p (fun _ => by exact y_build (out := [_, _, _, _, _, _, _, _]) (.cons (.plain rfl) inferInstance rfl .nil) rfl rfl) rfl ?_
 refine st_p (fun _ => by exact y_buildSlice (.cons (.plain rfl) inferInstance (by rfl) (.cons (.plain rfl) inferInstance (by rfl) (.cons (.plain rfl) inferInstance (by rfl) .nil))) rfl (le_ rfl)) rfl ?_
 refine st_p (fun _ => by exact y_build (out := [_, _, _, _, _]) (.cons (.plain rfl) inferInstance rfl (.cons (.plain rfl) inferInstance rfl (.cons (.plain rfl) inferInstance rfl .nil))) rfl rfl) rfl ?_
 refine st_p (fun _ => by exact y_build (out := [_, _, _, _, _]) (.cons (.plain rfl) inferInstance rfl (.cons (.plain rfl) inferInstance rfl (.cons (.plain rfl) inferInstance rfl .nil))) rfl rfl) rfl ?_
 refine st_p (fun _ => by exact y_buildSlice (.cons (.plain rfl) inferInstance (by rfl) (.cons (.plain rfl) inferInstance (by rfl) .nil)) rfl (le_ rfl)) rfl ?_
 refine st_p (fun _ => by exact y_build (out := [_, _]) (.cons (.plain rfl) inferInstance rfl (.cons (.plain rfl) inferInstance rfl .nil)) rfl rfl) rfl ?_
 refine sC fun n1 => ?_
 refine st_s (fun _ => by exact y_storeW (by rfl) rfl (.plain rfl) (.plain rfl) (by exact .here) (by rfl)) ?_
 refine aops_nil ?_
 refine asr ?_
 refine sW .here ?_
 refine aops_call (blt_lt rfl) (.plain rfl) (.cons (.imp (.plain rfl) (AV.Imp.row_of (enc := encPl) (a' := Pn.awX) rfl)) (.cons (.imp (.plain rfl) (Sl.imp (sz := 1) (enc := Go.Aw.encI))) (.cons (.imp (.plain rfl) (Sl.imp (sz := 1) (enc := Go.Aw.encI))) (.cons (.plain rfl) .nil)))) (ACalls.here split0_c ?_)
 refine sM ?_
 refine sE ?_
 refine sE ?_
 refine sE ?_
 refine sA ?_
 refine sA ?_
 refine sA ?_
 refine aops_nil ?_
 refine asr ?_
 refine sM ?_
 refine sM ?_
 refine gM ?_
 refine st_g rfl rfl rfl SaysI.out (fun hc _ => by exact y_buildSlice (.cons (.plain rfl) inferInstance (by rfl) (.cons (.plain rfl) inferInstance (by rfl) (.cons (.plain rfl) inferInstance (by rfl) (.cons (.plain rfl) inferInstance (by rfl) .nil)))) rfl (le_ rfl)) rfl ?_
 refine st_g rfl rfl rfl SaysI.out (fun hc _ => by exact y_buildSlice (.cons (.opt rfl hc) inferInstance (by rfl) .nil) rfl (le_ rfl)) rfl ?_
 refine st_g rfl rfl rfl SaysI.out (fun hc _ => by exact y_call (.plain rfl) (.cons (.imp (.opt rfl hc) (Sl.imp (enc := encLI))) (.cons (.imp (.opt rfl hc) (Sl.imp (enc := encLI))) .nil)) (ACalls.pure (sameLL_c [[1, 1, 2, 2]] [[1, 1, 2, 2]] (by decide) (by simp)))) rfl ?_
 refine sJ ?_
 refine sM ?_
 refine gM ?_
 refine st_g rfl rfl rfl SaysI.out (fun hc _ => by exact y_buildSlice (.cons (.plain rfl) inferInstance (by rfl) (.cons (.plain rfl) inferInstance (by rfl) .nil)) rfl (le_ rfl)) rfl ?_
 refine st_g rfl rfl rfl SaysI.out (fun hc _ => by exact y_buildSlice (.cons (.opt rfl hc) inferInstance (by rfl) .nil) rfl (le_ rfl)) rfl ?_
 refine st_g rfl rfl rfl SaysI.out (fun hc _ => by exact y_call (.plain rfl) (.cons (.imp (.opt rfl hc) (Sl.imp (enc := encLI))) (.cons (.imp (.opt rfl hc) (Sl.imp (enc := encLI))) .nil)) (ACalls.pure (sameLL_c [[3, 3]] [[3, 3]] (by decide) (by simp)))) rfl ?_
 refine sJ ?_
 refine sA ?_
 refine aops_nil ?_
 refine awp_ret ?_
 refine retG (.inr rfl) (.cons (.tmp rfl) .nil) (VShift.of1 (AV.Imp.refl _) (.nil _)) ⟨congrArg (fun x : (Bool) => (AV.bool x)) (show _ = (true) from ?_), rfl⟩
 decide
end Go.Proofs
namespace Go.Aw
open Go.RowKit (Below)
def RdN (P : Program) (N : Nat) (T : TypeId) {α : Type} (f : α → List AV) (ok : α → Prop) : Prop :=
  ∀ (H : Type) (enc : TypeId × Value → H) (W : World) (fuel : Nat) (cs : List Value) (x : DataW H × List MemPlace), fuel ≤ N → DataW.trod enc P W 0 (fun _ => true) true fuel T cs = some x →
    ∃ a, ok a ∧ holdsL (g0 W) (f a) cs ∧ ∀ u ∈ cs, u.oneCell' = true
theorem RdT.n {P : Program} {T : TypeId} {α : Type} {f : α → List AV} {ok : α → Prop} (h : RdT P T f ok) (N : Nat) : RdN P N T f ok := fun H enc W fuel cs x _ hx => h H enc W fuel cs x hx
theorem RdT.of_n {P : Program} {T : TypeId} {α : Type} {f : α → List AV} {ok : α → Prop} (h : ∀ N, RdN P N T f ok) : RdT P T f ok := fun H enc W fuel cs x hx => h fuel H enc W fuel cs x (Nat.le_refl _) hx
theorem RdN.map {P : Program} {N : Nat} {T : TypeId} {α β : Type} {f : α → List AV} {ok : α → Prop} (h : RdN P N T f ok) (φ : α → β) {f' : β → List AV} {ok' : β → Prop} (hf : ∀ a, f' (φ a) = f a) (hok : ∀ a, ok a → ok' (φ a)) : RdN P N T f' ok' := by
  intro H enc W fuel cs x hN hx
  obtain ⟨a, h1, h2, h3⟩ := h H enc W fuel cs x hN hx
  exact ⟨φ a, hok a h1, by rw [hf]; exact h2, h3⟩
theorem RdN.slice {P : Program} {N : Nat} {T E sz by_ : Nat} {α : Type} {f : α → List AV} {ok : α → Prop} (h : RdN P N E f ok) (ht : SliceT P T E sz by_) : RdN P N T (fun l : List α => [.sl sz (l.map f)]) (fun l => l.length ≤ 9223372036854775807 ∧ ∀ a ∈ l, ok a) := by
  intro H enc W fuel cs x hN hx
  have hcell : P.cellsOf E = sz := by
    have := ht.hsize; unfold sizeB at this; unfold Program.cellsOf; rw [this]; rfl
  rcases DataW.trod_slice ht.und hx with ⟨rfl, _⟩ | ⟨a, len, cap, elems, rest, n, hfu, rfl, _, _, hl, hm, hlen, hel0, _, _⟩
  · exact ⟨[], ⟨by simp, by simp⟩, ⟨(inferInstance : Rd (.val (.slice none 0 0)) sz []).imp _ _ (AV.val_self _), trivial⟩, by simp; rfl⟩
  · rw [hcell] at hel0
    have hel : ∀ i, i < len → ∃ cs' x', W.cells? 0 (a.add (i * sz)) sz = some cs' ∧ DataW.trod enc P W 0 (fun _ => true) true n E cs' = some x' := by
      intro i hi
      have := hel0 i hi
      rw [List.getElem?_eq_getElem (by omega), Option.bind_eq_some_iff] at this
      obtain ⟨cs', h1, h2⟩ := this
      exact ⟨cs', _, h1, h2⟩
    have key : ∀ k, k ≤ len → ∃ l : List α, l.length = k ∧ (∀ a ∈ l, ok a) ∧ (∀ x ∈ l.map f, x.length = sz) ∧ (0 < k → ∃ b o, a = ⟨b, o, none⟩ ∧ comRow (g0 W) b (o + (len - k) * sz) (l.map f).flatten) := by
      intro k
      induction k with
      | zero => intro _; exact ⟨[], rfl, by simp, by simp, by omega⟩
      | succ k ih =>
        intro hk
        obtain ⟨l, h1, h2, h3, h4⟩ := ih (by omega)
        obtain ⟨cs', x', hc, htr⟩ := hel (len - (k + 1)) (by omega)
        obtain ⟨a0, k1, k2, k3⟩ := h H enc W n cs' _ (by omega) htr
        unfold World.cells? at hc
        rw [if_pos (Nat.zero_le _)] at hc
        obtain ⟨c1, c2⟩ := mapM_range_some hc
        have hlen : (f a0).length = sz := by rw [k2.length, c1]
        have hsp : ∃ b o, a = ⟨b, o, none⟩ := by
          obtain ⟨b, o, s⟩ := a
          refine ⟨b, o, ?_⟩
          obtain ⟨cs0, x0, hc0, _⟩ := hel 0 (by omega)
          unfold World.cells? at hc0
          rw [if_pos (Nat.zero_le _)] at hc0
          obtain ⟨e1, e2⟩ := mapM_range_some hc0
          have := e2 0 ht.pos
          rw [List.getElem?_eq_getElem (by have := ht.pos; omega)] at this
          simp only [Nat.zero_mul, Addr.add, if_pos] at this
          cases s with
          | none => rfl
          | some s =>
            unfold World.cell? at this
            split at this <;> simp at this
        obtain ⟨b, o, rfl⟩ := hsp
        refine ⟨a0 :: l, by simp [h1], fun x hx => (List.mem_cons.1 hx).elim (fun e => e ▸ k1) (h2 x), fun x hx => ?_, fun _ => ⟨b, o, rfl, ?_⟩⟩
        · rw [List.map_cons] at hx
          exact (List.mem_cons.1 hx).elim (fun e => e ▸ hlen) (h3 x)
        · rw [List.map_cons, List.flatten_cons]
          refine comRow.append (comRow.of k2 k3 (fun i v hv => ?_)) ?_
          · have hi : i < sz := by
              rcases Nat.lt_or_ge i cs'.length with hh | hh
              · omega
              · rw [List.getElem?_eq_none hh] at hv; cases hv
            have := c2 i hi
            rw [hv] at this
            simp only [Addr.add_mk] at this
            exact this
          · rw [hlen]
            rcases Nat.eq_zero_or_pos k with hk0 | hk0
            · subst hk0
              have : l = [] := List.eq_nil_of_length_eq_zero h1
              subst this; exact trivial
            · obtain ⟨b', o', e, hr⟩ := h4 hk0
              cases e
              have e2 : o + (len - (k + 1)) * sz + sz = o + (len - k) * sz := by
                rw [show len - k = (len - (k + 1)) + 1 by omega, Nat.add_mul, Nat.one_mul]; omega
              rw [e2]; exact hr
    obtain ⟨l, h1, h2, h3, h4⟩ := key len (Nat.le_refl _)
    refine ⟨l, ⟨by have : maxLen = 9223372036854775807 := by decide
                   omega, h2⟩, ⟨?_, trivial⟩, by simp; rfl⟩
    rw [AV.sl_holds]
    refine ⟨some a, cap, by simp [h1], by simp [h1, hl], h3, fun hne => ?_⟩
    have hpos : 0 < len := by
      rcases Nat.eq_zero_or_pos len with h0 | h0
      · rw [h0] at h1; have : l = [] := List.eq_nil_of_length_eq_zero h1; subst this; exact absurd rfl hne
      · exact h0
    obtain ⟨b, o, rfl, hr⟩ := h4 hpos
    exact ⟨b, o, rfl, by simpa using hr⟩
theorem RdT.sliceL {P : Program} {T E sz by_ : Nat} {α : Type} {f : α → List AV} {ok : α → Prop} (h : RdT P E f ok) (ht : SliceT P T E sz by_) : RdT P T (fun l : List α => [.sl sz (l.map f)]) (fun l => l.length ≤ 9223372036854775807 ∧ ∀ a ∈ l, ok a) :=
  RdT.of_n fun N => (h.n N).slice ht
inductive RdSN (P : Program) (N : Nat) : List Field → Nat → (α : Type) → (α → List AV) → (α → Prop) → Nat → Prop
  | nil {o : Nat} : RdSN P N [] o Unit (fun _ => []) (fun _ => True) o
  | cons {fl : Field} {fs : List Field} {o s e : Nat} {α β : Type} {f : α → List AV} {ok : α → Prop} {F : β → List AV} {ok' : β → Prop} (h : RdN P N fl.type f ok) (ho : fl.offset = o) (hs : P.cellsOf fl.type = s) (r : RdSN P N fs (o + s) β F ok' e) :
      RdSN P N (fl :: fs) o (α × β) (fun x => f x.1 ++ F x.2) (fun x => ok x.1 ∧ ok' x.2) e
theorem RdSN.read {P : Program} {N : Nat} {fs : List Field} {o e : Nat} {α : Type} {F : α → List AV} {ok : α → Prop} (h : RdSN P N fs o α F ok e) : ∀ {H : Type} {enc : TypeId × Value → H} {W : World} {n : Nat} {cs : List Value}, n ≤ N → cs.length = e →
    (∀ (i : Nat) (fl : Field), fs[i]? = some fl → ∃ x, DataW.trod enc P W 0 (fun _ => true) true n fl.type ((cs.drop fl.offset).take (P.cellsOf fl.type)) = some x) → ∃ a, ok a ∧ holdsL (g0 W) (F a) (cs.drop o) ∧ ∀ u ∈ cs.drop o, u.oneCell' = true := by
  induction h with
  | nil => intro H enc W n cs hN hl _; exact ⟨(), trivial, by rw [List.drop_of_length_le (by omega)]; trivial, by rw [List.drop_of_length_le (by omega)]; simp⟩
  | @cons fl fs o s e α β f ok F ok' h ho hs _ ih =>
    intro H enc W n cs hN hl hf
    obtain ⟨x, hx⟩ := hf 0 fl rfl
    rw [ho, hs] at hx
    obtain ⟨a, k1, k2, k3⟩ := h H enc W n _ _ hN hx
    obtain ⟨b, m1, m2, m3⟩ := ih (enc := enc) (W := W) (n := n) hN hl (fun i fl' hfl => hf (i + 1) fl' (by simpa using hfl))
    have hsplit : cs.drop o = (cs.drop o).take s ++ cs.drop (o + s) := by rw [← List.drop_drop, List.take_append_drop]
    refine ⟨(a, b), ⟨k1, m1⟩, ?_, ?_⟩
    · rw [hsplit]; exact k2.append m2
    · rw [hsplit]; exact fun u hu => (List.mem_append.1 hu).elim (k3 u) (m3 u)
theorem RdN.struct {P : Program} {N T e : Nat} {fs : Array Field} {α : Type} {F : α → List AV} {ok : α → Prop} (hu : P.underlying T = some (.struct fs)) (h : RdSN P N fs.toList 0 α F ok e) (he : P.cellsOf T = e) : RdN P (N + 1) T F ok := by
  intro H enc W fuel cs x hN hx
  obtain ⟨xs, n, hn, _, hl, hlen, hf⟩ := DataW.trod_struct hu hx
  have := h.read (enc := enc) (W := W) (n := n) (cs := cs) (by omega) (by rw [hl, he]) (fun i fl hfl => by
    have h1 := hf i fl (by simpa using hfl)
    have hi : i < fs.size := by
      rcases Nat.lt_or_ge i fs.toList.length with h | h
      · simpa using h
      · rw [List.getElem?_eq_none h] at hfl; cases hfl
    exact ⟨xs[i]'(by omega), by rw [h1, List.getElem?_eq_getElem (by omega)]⟩)
  simpa using this
theorem RdN.zero {P : Program} {T : TypeId} {fs : Array Field} {α : Type} {f : α → List AV} {ok : α → Prop} (hu : P.underlying T = some (.struct fs)) : RdN P 0 T f ok := by
  intro H enc W fuel cs x hN hx
  obtain ⟨xs, n, hn, _⟩ := DataW.trod_struct hu hx
  omega
end Go.Aw
set_option maxRecDepth 10000
namespace Go.Proofs
open Go.Aw Wl Pn
theorem ownK : ownKnob Tryz.prog.godebug = none := by kernel_rfl
theorem laidK : laidOutB Tryz.prog = true := by kernel_rfl
theorem rdExN : ∀ N, RdN Tryz.prog N 51 encE (fun _ => True)
 | 0 => RdN.zero Tryz.underlying51
 | N + 1 => RdN.map (RdN.struct Tryz.underlying51 (.cons (s := 1) (RdT.n (RdT.i64 Tryz.underlying3) N) rfl (by kernel_rfl) (.cons (s := 1) (RdT.n (RdT.i64 Tryz.underlying3) N) rfl (by kernel_rfl) (.cons (s := 1) (RdT.n (RdT.string Tryz.underlying9) N) rfl (by kernel_rfl) (.cons (s := 1) (RdT.n (RdT.i64 Tryz.underlying3) N) rfl (by kernel_rfl) (.cons (s := 1) ((rdExN N).slice inferInstance) rfl (by kernel_rfl) .nil))))) (by kernel_rfl)) (fun x => Pn.Ex.mk x.1 x.2.1 x.2.2.1 x.2.2.2.1 x.2.2.2.2.1) (fun x => by show [_, _, _, _, AV.sl 5 (encExs x.2.2.2.2.1)] = [_, _, _, _, AV.sl 5 (x.2.2.2.2.1.map encE)]; rw [encExs_map]; rfl) (fun _ _ => trivial)
theorem rdEx : RdT Tryz.prog 51 encE (fun _ => True) := RdT.of_n rdExN
theorem rdLI0 : RdT Tryz.prog 26 (fun l : List Int => [AV.sl 1 (l.map Go.Aw.encI)]) (fun _ => True) := RdT.map (RdT.slice (RdT.i64 Tryz.underlying3) inferInstance) (fun l => l) (fun _ => rfl) (fun _ _ => trivial)
theorem rdSg : RdT Tryz.prog 53 encSg (fun _ => True) := RdT.map (RdT.struct Tryz.underlying53 (.cons (s := 1) (RdT.i64 Tryz.underlying3) rfl (by kernel_rfl) (.cons (s := 1) (RdT.i64 Tryz.underlying3) rfl (by kernel_rfl) (.cons (s := 5) (rdEx) rfl (by kernel_rfl) (.cons (s := 1) (rdLI0) rfl (by kernel_rfl) .nil)))) (by kernel_rfl)) (fun x => (⟨x.1, x.2.1, x.2.2.1, x.2.2.2.1⟩ : Pn.Sg)) (fun _ => rfl) (fun _ _ => trivial)
theorem rdPp : RdT Tryz.prog 43 encPp (fun _ => True) := RdT.map (RdT.struct Tryz.underlying43 (.cons (s := 1) (RdT.i64 Tryz.underlying3) rfl (by kernel_rfl) (.cons (s := 1) (RdT.i64 Tryz.underlying3) rfl (by kernel_rfl) (.cons (s := 1) (RdT.i64 Tryz.underlying3) rfl (by kernel_rfl) (.cons (s := 1) (RdT.i64 Tryz.underlying3) rfl (by kernel_rfl) (.cons (s := 1) (RdT.i64 Tryz.underlying3) rfl (by kernel_rfl) .nil))))) (by kernel_rfl)) (fun x => (⟨x.1, x.2.1, x.2.2.1, x.2.2.2.1, x.2.2.2.2.1⟩ : Pn.Pp)) (fun _ => rfl) (fun _ _ => trivial)
theorem rdPl : RdT Tryz.prog 25 encPl (fun z => z.stages.length ≤ 9223372036854775807) := RdT.map (RdT.struct Tryz.underlying25 (.cons (s := 1) (RdT.sliceL rdSg inferInstance) rfl (by kernel_rfl) (.cons (s := 1) (RdT.slice rdPp inferInstance) rfl (by kernel_rfl) .nil)) (by kernel_rfl)) (fun x => (⟨x.1, x.2.1⟩ : Pn.Pl)) (fun _ => rfl) (fun _ h => h.1.1)
theorem rdU : RdT Tryz.prog 5 (fun n : Int => [AV.val (.int .u8 n)]) (fun n => 0 ≤ n ∧ n ≤ 255) := RdT.u8 Tryz.underlying5
theorem rdB : RdT Tryz.prog 4 (fun b : Bool => [AV.bool b]) (fun _ => True) := RdT.bool Tryz.underlying4
end Go.Proofs
namespace Pn
theorem run1 {x : Pl} {s : Fs} {n : Int} (h : (prun x s [n] 1).2.2 = 0) (h2 : (prun x s [n] 1).2.1.length ≠ 0) : Pok x ∧ Pv x s ∧ ∃ i m, Stp x s i m (prun x s [n] 1).1 := by
  unfold prun at h h2 ⊢
  split at h
  · cases h
  · rename_i h3
    obtain ⟨hx, hv⟩ := pvalid_ok (Classical.not_not.1 h3)
    rw [if_neg h3] at h2 ⊢
    rw [if_neg (by omega)] at h h2 ⊢
    split at h
    · rename_i h4; exact absurd h h4
    · rename_i h4
      rw [if_neg h4] at h2 ⊢
      refine ⟨hx, hv, ?_⟩
      dsimp only at h2 ⊢
      have e1 : (1 : Int).toNat = 0 + 1 := rfl
      rw [e1] at h2 h4 ⊢
      by_cases h5 : (penabled x s).2 ≠ 0 ∨ (penabled x s).1.length = 0
      · rw [runS_stop h5] at h2; exact absurd rfl h2
      · by_cases h6 : (pstep x s (runI x [n] 0 s)).2 ≠ 0
        · rw [runS_err h5 h6] at h2; exact absurd rfl h2
        · rw [runS_go h5 h6]
          exact ⟨_, _, pstep_stp hx hv (Classical.not_not.1 h6)⟩
structure Bnd (p : Pp) (o c : Cr) : Prop where
  cap : (c.items.length : Int) ≤ p.capacity
  ts : c.taken ≤ c.sent
  sent : o.sent ≤ c.sent
  taken : o.taken ≤ c.taken
  kept : o.items.drop (max 0 (min (o.items.length : Int) (c.taken - o.taken))).toNat = c.items.take (o.items.drop (max 0 (min (o.items.length : Int) (c.taken - o.taken))).toNat).length ∧ (o.items.drop (max 0 (min (o.items.length : Int) (c.taken - o.taken))).toNat).length ≤ c.items.length
theorem Stp.bnd {x : Pl} {s t : Fs} {i : Int} {m : Mv} (hx : Pok x) (hv : Pv x s) (h : Stp x s i m t) {k : Nat} (hk : k < x.pipes.length) : Bnd (pip x k) (crd s k) (crd t k) := by
  have hw := h.valid hx hv
  have ht := hw.ok k hk
  have hc := hw.cap k hk
  have hs := hv.ok k hk
  have c1 := ht.len; have c2 := ht.granted; have c3 := ht.room; have c4 := ht.sent
  have key : (crd s k).taken ≤ (crd t k).taken ∧ (crd s k).sent ≤ (crd t k).sent ∧ ((crd t k).taken = (crd s k).taken ∧ (∃ r, (crd t k).items = (crd s k).items ++ r) ∨ (crd t k).taken = (crd s k).taken + 1 ∧ 0 < (crd s k).items.length ∧ (crd t k).items = (crd s k).items.drop 1) := by
    rw [h.cr k hk]
    split
    · refine ⟨Int.le_refl _, ?_, .inl ⟨rfl, _, rfl⟩⟩
      show (crd s k).sent ≤ (crd s k).sent + _
      omega
    · split
      · rename_i h1
        refine ⟨?_, Int.le_refl _, .inr ⟨rfl, (h.took k hk h1).1, rfl⟩⟩
        show (crd s k).taken ≤ (crd s k).taken + 1; omega
      · exact ⟨Int.le_refl _, Int.le_refl _, .inl ⟨rfl, [], (List.append_nil _).symm⟩⟩
  obtain ⟨k1, k2, k3⟩ := key
  refine ⟨by rw [← hc]; omega, c4, k2, k1, ?_⟩
  rcases k3 with ⟨e, r, er⟩ | ⟨e, hl, er⟩
  · have e0 : (max 0 (min ((crd s k).items.length : Int) ((crd t k).taken - (crd s k).taken))).toNat = 0 := by omega
    rw [e0, List.drop_zero, er]
    exact ⟨by rw [List.take_left], by rw [List.length_append]; omega⟩
  · have e0 : (max 0 (min ((crd s k).items.length : Int) ((crd t k).taken - (crd s k).taken))).toNat = 1 := by omega
    rw [e0, er]
    exact ⟨by rw [List.take_length], Nat.le_refl _⟩
theorem Pv.drain {x : Pl} {s : Fs} (h : Pv x s) (b : Bool) : Pv x { s with draining := b } := ⟨h.ls, h.lc, h.lo, h.need, h.outs, h.ok, h.cap, h.closed, h.granted, h.noted⟩
theorem pbegin_of {x : Pl} {s : Fs} (hx : Pok x) (hv : Pv x s) (hd : s.draining = false) : pbegin x s = ({ s with draining := true }, 0) := by
  unfold pbegin
  rw [if_neg (fun h => h (pvalid_of hx hv)), if_neg (by rw [hd]; decide)]
end Pn
set_option maxRecDepth 10000
namespace Go.Proofs
open Go.Aw Wl Pn
theorem equalI_c (a b : List Int) (ha : a.length ≤ 1000000) : ACalls Tryz.prog 10 [(AV.sl 1 (List.map Go.Aw.encI a)), (AV.sl 1 (List.map Go.Aw.encI b))] [] (fun v st => v = (AV.bool (decide (a = b))) ∧ st = []) := by
 refine acalls_body Tryz.func10 (by kernel_rfl) rfl Tryz.ntmps10 (le_ rfl) ?_
 rw [Tryz.results10]
 refine asr ?_
 refine sA ?_
 refine aops_nil ?_
 refine awp_seq ?_
 refine asr ?_
 refine sM ?_
 refine sN ?_
 refine sM ?_
 refine sN ?_
 refine sR ?_
 refine aops_nil ?_
 refine awp_cond rfl (fun h1 => ?_) (fun h1 => ?_)
 ·
  simp only [nf] at h1
  refine asr ?_
  refine sA ?_
  refine aops_nil ?_
  refine awp_ret ?_
  refine retG (.inr rfl) (.cons (.tmp rfl) .nil) (VShift.of1 (AV.Imp.refl _) (.nil _)) ⟨congrArg (fun x : (Bool) => (AV.bool x)) (show _ = (decide (a = b)) from ?_), rfl⟩
  rw [eq_comm, decide_eq_false_iff_not]; rintro rfl; exact h1 rfl
 ·
  simp only [nf] at h1
  refine awp_skip ?_
  refine awp_seq ?_
  refine asr ?_
  refine sM ?_
  refine sN ?_
  refine sM ?_
  refine aops_nil ?_
  refine awp_block ?_
  refine awp_loop2 (X := Nat) [0, 1, 12] (.cons rfl (.cons rfl (.cons rfl .nil))) (fun σ x => ((13, .int (x : Int)) : Nat × AV) :: σ) (fun R x => R) (fun x => x ≤ a.length ∧ (∀ i (h : i < a.length) (h2 : i < b.length), i < x → a[i] = b[i])) (fun x => a.length - x) 0 (by exact Weak.of2 (by (repeat (first | exact .nil _ | refine .cons rfl (by exact AV.Imp.refl _) ?_)); done) (by (repeat (exact .refl _)); done)) ⟨Nat.zero_le _, by omega⟩ ?_
  rintro k ⟨hk, hinv⟩
  try have hab : a.length = b.length := by omega
  refine asr ?_
  refine sS ?_
  refine aops_nil ?_
  refine awp_seq ?_
  refine awp_cond rfl (fun h2 => ?_) (fun h2 => ?_)
  ·
   simp only [nf] at h2
   refine awp_skip ?_
   refine awp_seq ?_
   refine awp_block ?_
   refine asr ?_
   refine sM ?_
   refine sA ?_
   refine aops_nil ?_
   refine awp_seq ?_
   refine awp_any0 (ks := [.free, .free, .free, .free, .free, .free, .free, .free, .free]) (by kernel_rfl) (fun K => ?_) ?_
   ·
    have hkb : k < b.length := by omega
    refine rM ?_
    refine rM ?_
    refine dr_p (fun _ => by exact y_indexMap (.plain rfl) (.plain rfl) rfl (by refine ⟨?_, ?_⟩; (omega); rfl)) rfl ?_
    refine rU ?_
    refine rM ?_
    refine rM ?_
    refine dr_p (fun _ => by exact y_indexMap (.plain rfl) (.plain rfl) rfl (by refine ⟨?_, ?_⟩; (omega); rfl)) rfl ?_
    refine rU ?_
    refine rR ?_
    refine dr_nil ⟨rfl, ?_⟩
    refine awp_cond rfl (fun h3 => ?_) (fun h3 => ?_)
    ·
     simp only [nf] at h3
     refine asr ?_
     refine sA ?_
     refine aops_nil ?_
     refine awp_ret ?_
     refine retG (.inr rfl) (.cons (.tmp rfl) .nil) (VShift.of1 (AV.Imp.refl _) (.nil _)) ⟨congrArg (fun x : (Bool) => (AV.bool x)) (show _ = (decide (a = b)) from ?_), rfl⟩
     rw [eq_comm, decide_eq_false_iff_not]; rintro rfl; exact h3 rfl
    ·
     simp only [nf] at h3
     refine awp_skip ?_
     refine awp_region ?_
     refine sY ?_ (hb := by omega)
     refine sM ?_
     refine aops_nil ?_
     refine ⟨k + 1, ?_, ?_, Weak.of2 (by (repeat (first | exact .nil _ | refine .cons rfl (by exact AV.Imp.refl _) ?_)); done) (by (repeat (exact .refl _)); done)⟩
     ·
      refine ⟨by omega, ?_⟩
      intro i hi hi2 hik
      by_cases e : i = k
      ·
       subst e; exact h3
      ·
       exact hinv i hi hi2 (by omega)
     ·
      omega
   ·
    kernel_rfl
  ·
   simp only [nf] at h2
   refine awp_exit ?_
   refine asr ?_
   refine sA ?_
   refine aops_nil ?_
   refine awp_ret ?_
   refine retG (.inr rfl) (.cons (.tmp rfl) .nil) (VShift.of1 (AV.Imp.refl _) (.nil _)) ⟨congrArg (fun x : (Bool) => (AV.bool x)) (show _ = (decide (a = b)) from ?_), rfl⟩
   rw [eq_comm, decide_eq_true_iff]; exact List.ext_getElem (by omega) fun i p q => hinv i p q (by omega)
theorem boundsLaw_c (z : Pn.Pl) (l : List Int) (n : Int) (d : Bool) (hz : z.stages.length ≤ 9223372036854775807) (hn : 0 ≤ n ∧ n ≤ 255) : ACalls Tryz.prog 3 [(AV.agg (encPl z)), (AV.sl 1 (List.map Go.Aw.encI l)), (AV.val (.int .u8 n)), (AV.bool d)] [] (fun v st => v = (AV.bool (true)) ∧ st = []) := by
 refine acalls_body Tryz.func3 (by kernel_rfl) rfl Tryz.ntmps3 (le_ rfl) ?_
 rw [Tryz.results3]
 have hmb := Pn.tmod_bd n (n := 101) (by decide)
 have hm0 := Int.tmod_nonneg (101 : Int) hn.1
 obtain ⟨M, hM⟩ : ∃ M : Nat, n.tmod 101 = (M : Int) := ⟨_, (Int.toNat_of_nonneg hm0).symm⟩
 refine asr ?_
 refine sB fun n4 => ?_
 refine sA ?_
 refine aops_nil ?_
 refine awp_seq ?_
 refine asr ?_
 refine sW .here ?_
 refine sM ?_
 refine st_p (fun _ => by exact y_buildSlice (.cons (.plain rfl) inferInstance (by rfl) .nil) rfl (le_ rfl)) rfl ?_
 refine aops_call (blt_lt rfl) (.plain rfl) (.cons (.imp (.plain rfl) (AV.Imp.agg (RowOf.imp (enc := encPl)))) (.cons (.imp (.plain rfl) (Sl.imp (enc := encLI))) .nil)) (ACalls.here (fine_c z [l] hz (by simp)) ?_)
 refine sO ?_
 refine aops_nil ?_
 refine awp_cond rfl (fun h1 => ?_) (fun h1 => ?_)
 ·
  simp only [nf] at h1
  refine asr ?_
  refine aops_call (blt_lt rfl) (.plain rfl) .nil (ACalls.here awake_c ?_)
  refine sA ?_
  refine aops_nil ?_
  refine awp_ret ?_
  refine retG (.inr rfl) (.cons (.tmp rfl) .nil) (VShift.of1 (AV.Imp.refl _) (.nil _)) ⟨congrArg (fun x : (Bool) => (AV.bool x)) (show _ = (true) from ?_), rfl⟩
  rfl
 ·
  simp only [nf] at h1
  obtain ⟨hx, hz12, hLl⟩ := Pn.fineM_ok (show Pn.fineM z [l] = true by simpa using h1)
  have hl60 : l.length ≤ 60 := hLl l (List.mem_singleton.2 rfl)
  have hxp := hx.np
  have hz2 : z.stages.length ≤ 1000000 ∧ z.pipes.length ≤ 1000000 := by omega
  have hpn := Pn.pnew_zero hx
  refine awp_skip ?_
  refine asr ?_
  refine sW .here ?_
  refine aops_call (blt_lt rfl) (.plain rfl) (.cons (.imp (.plain rfl) (AV.Imp.agg (RowOf.imp (enc := encPl)))) .nil) (ACalls.here (pnew_c z hz2) ?_)
  refine sM ?_
  refine sE ?_
  refine sE ?_
  refine sC fun n9 => ?_
  refine st_s (fun _ => by exact y_storeW (by rfl) rfl (.plain rfl) (.plain rfl) (by exact .here) (by rfl)) ?_
  refine sA ?_
  refine aops_nil ?_
  refine awp_seq ?_
  refine asr ?_
  refine sM ?_
  refine sR ?_
  refine aops_nil ?_
  refine awp_cond rfl (fun h2 => ?_) (fun h2 => ?_)
  ·
   rw [hpn] at h2; cases h2
  ·
   simp only [nf] at h2
   refine awp_skip ?_
   refine awp_seq ?_
   refine asr ?_
   refine sM ?_
   refine st_p (fun _ => by exact y_convertN (by rfl) (by rfl) (.plain rfl) (by rw [IntKind.wrap_i64]; omega)) rfl ?_
   refine st_p (fun _ => by exact y_rem (.plain rfl) (.plain rfl) (by omega)) rfl ?_
   refine sM ?_
   refine aops_nil ?_
   rw [hM]
   refine awp_block ?_
   refine awp_loop2 (X := Nat × Pn.Fs) [1, 3, 4, 9, 37] (.cons rfl (.cons rfl (.cons rfl (.cons rfl (.cons rfl .nil))))) (fun σ x => ((38, .int (x.1 : Int)) : Nat × AV) :: σ) (fun R x => .cells n9 (encFs x.2) :: R) (fun x => x.1 ≤ M ∧ Pn.Pv z x.2 ∧ (x.1 ≤ 10 → x.2.draining = false)) (fun x => M - x.1) (0, (Pn.pnew z).1) (by exact Weak.of2 (by (repeat (first | exact .nil _ | refine .cons rfl (by exact AV.Imp.refl _) ?_)); done) (by (repeat (exact .refl _)); done)) ⟨Nat.zero_le _, Pn.pnew_valid hx, fun _ => by rw [Pn.pnew_of hx]⟩ ?_
   rintro ⟨k, s⟩ ⟨hk, hv, hdr⟩
   simp only at hk hv hdr
   dsimp only
   refine asr ?_
   refine sS ?_
   refine aops_nil ?_
   refine awp_seq ?_
   refine awp_cond rfl (fun h3 => ?_) (fun h3 => ?_)
   ·
    simp only [nf] at h3
    have hkM : k < M := by omega
    refine awp_skip ?_
    refine awp_seq ?_
    refine awp_block ?_
    refine asr ?_
    refine sM ?_
    refine sA ?_
    refine aops_nil ?_
    refine awp_seq ?_
    refine asr ?_
    refine sM ?_
    refine sM ?_
    refine gM ?_
    refine gQ0 ?_
    refine sJ ?_
    refine aops_nil ?_
    refine awp_cond rfl (fun h4 => ?_) (fun h4 => ?_)
    ·
     simp only [nf] at h4
     have hk10 : k = 10 := by have h9 := h4; omega
     have hbg := Pn.pbegin_of hx hv (hdr (by omega))
     obtain ⟨S, hS⟩ : ∃ S : Pn.Fs, S = { s with draining := true } := ⟨_, rfl⟩
     have hv1 : Pn.Pv z S := by rw [hS]; exact hv.drain true
     have hd1 : k + 1 ≤ 10 → S.draining = false := by omega
     refine asr ?_
     refine sW k1 ?_
     refine sW .here ?_
     refine aops_call (blt_lt rfl) (.plain rfl) (.cons (.imp (.plain rfl) (AV.Imp.agg (RowOf.imp (enc := encPl)))) (.cons (.imp (.plain rfl) (AV.Imp.agg (RowOf.imp (enc := encFs)))) .nil)) (ACalls.here (begin2_c z s hz2 (hv.sz hx)) ?_)
     refine sM ?_
     refine sE ?_
     refine sE ?_
     refine sC fun n12 => ?_
     refine st_s (fun _ => by exact y_storeW (by rfl) rfl (.plain rfl) (.plain rfl) (by exact .here) (by rfl)) ?_
     refine sA ?_
     refine aops_nil ?_
     rw [hbg]
     dsimp only
     refine awp_seq ?_
     refine asr ?_
     refine sM ?_
     refine sR ?_
     refine aops_nil ?_
     refine awp_cond rfl (fun h5 => ?_) (fun h5 => ?_)
     ·
      cases h5
     ·
      simp only [nf] at h5
      refine awp_skip ?_
      refine awp_region ?_
      refine sW .here ?_
      refine st_s (fun _ => by exact y_storeW (by rfl) rfl (.plain rfl) (.plain rfl) (by exact u1) (by rfl)) ?_
      refine aops_nil ?_
      rw [← hS]
      refine asr ?_
      refine sA ?_
      refine aops_nil ?_
      refine awp_seq ?_
      refine asr ?_
      refine sM ?_
      refine sN ?_
      refine sG ?_
      refine aops_nil ?_
      refine awp_cond rfl (fun h6 => ?_) (fun h6 => ?_)
      ·
       simp only [nf] at h6
       have hkb := Pn.tmod_bd (k : Int) (n := (l.length : Int)) (by omega)
       have hk0 := Int.tmod_nonneg (l.length : Int) (show (0 : Int) ≤ (k : Int) by omega)
       refine awp_region ?_
       refine sM ?_
       refine sM ?_
       refine sM ?_
       refine sN ?_
       refine st_p (fun _ => by exact y_rem (.plain rfl) (.plain rfl) (by omega)) rfl ?_
       refine st_p (fun _ => by exact y_indexT (l := l) (.plain rfl) (.plain rfl) (by omega) (by omega)) rfl ?_
       refine sU ?_
       refine sA ?_
       refine aops_nil ?_
       obtain ⟨NN, hNN⟩ : ∃ v : Int, v = l.getD ((k : Int).tmod (l.length : Int)).toNat default := ⟨_, rfl⟩
       rw [← hNN]
       refine asr ?_
       refine sW k2 ?_
       refine sW k1 ?_
       refine sM ?_
       refine st_p (fun _ => by exact y_buildSlice (.cons (.plain rfl) inferInstance (by rfl) .nil) rfl (le_ rfl)) rfl ?_
       refine aops_call (blt_lt rfl) (.plain rfl) (.cons (.imp (.plain rfl) (AV.Imp.agg (RowOf.imp (enc := encPl)))) (.cons (.imp (.plain rfl) (AV.Imp.agg (RowOf.imp (enc := encFs)))) (.cons (.imp (.plain rfl) (Sl.imp (enc := Go.Aw.encI))) (.cons (.plain rfl) .nil)))) (ACalls.here (run_c z S [NN] 1 hz2 (hv1.sz hx) (by simp)) ?_)
       refine sM ?_
       refine sE ?_
       refine sE ?_
       refine sE ?_
       refine sC fun n15 => ?_
       refine st_s (fun _ => by exact y_storeW (by rfl) rfl (.plain rfl) (.plain rfl) (by exact .here) (by rfl)) ?_
       refine sA ?_
       refine sA ?_
       refine aops_nil ?_
       refine awp_seq ?_
       refine asr ?_
       refine sM ?_
       refine sR ?_
       refine sM ?_
       refine gM ?_
       refine gN0 ?_
       refine gQ0 ?_
       refine sK ?_
       refine aops_nil ?_
       refine awp_cond rfl (fun h7 => ?_) (fun h7 => ?_)
       ·
        simp only [nf] at h7
        refine awp_exit ?_
        refine asr ?_
        refine aops_call (blt_lt rfl) (.plain rfl) .nil (ACalls.here awake_c ?_)
        refine sA ?_
        refine aops_nil ?_
        refine awp_ret ?_
        refine retG (.inr rfl) (.cons (.tmp rfl) .nil) (VShift.of1 (AV.Imp.refl _) (.nil _)) ⟨congrArg (fun x : (Bool) => (AV.bool x)) (show _ = (true) from ?_), rfl⟩
        rfl
       ·
        simp only [nf] at h7
        obtain ⟨-, -, i0, m0, hstp⟩ := Pn.run1 (x := z) (s := S) (n := NN) (by omega) (by omega)
        obtain ⟨T, hT⟩ : ∃ T : Pn.Fs, T = (Pn.prun z S [NN] 1).1 := ⟨_, rfl⟩
        rw [← hT] at hstp ⊢
        have hvT := hstp.valid hx hv1
        have hlT := hvT.lc
        have hlS := hv1.lc
        have hdT := hstp.dr
        refine awp_skip ?_
        refine awp_seq ?_
        refine asr ?_
        refine sF ?_
        refine sL .here ?_
        refine sN ?_
        refine sF ?_
        refine sL k3 ?_
        refine sN ?_
        refine sR ?_
        refine sM ?_
        refine gF ?_
        refine gL0 k2 ?_
        refine gN0 ?_
        refine gF ?_
        refine gL0 k3 ?_
        refine gN0 ?_
        refine gR01 ?_
        refine sK ?_
        refine aops_nil ?_
        refine awp_cond rfl (fun h8 => ?_) (fun h8 => ?_)
        ·
         exfalso
         simp at h8
         omega
        ·
         simp only [nf] at h8
         refine awp_skip ?_
         refine awp_seq ?_
         refine asr ?_
         refine sF ?_
         refine sL .here ?_
         refine sN ?_
         refine sM ?_
         refine aops_nil ?_
         refine awp_block ?_
         refine awp_loop2 (X := Nat) [1, 3, 4, 9, 15, 37, 38, 98, 99] (.cons rfl (.cons rfl (.cons rfl (.cons rfl (.cons rfl (.cons rfl (.cons rfl (.cons rfl (.cons rfl .nil))))))))) (fun σ x => ((100, .int (x : Int)) : Nat × AV) :: σ) (fun R x => R) (fun x => x ≤ T.credits.length) (fun x => T.credits.length - x) 0 (by exact Weak.of2 (by (repeat (first | exact .nil _ | refine .cons rfl (by exact AV.Imp.refl _) ?_)); done) (by (repeat (exact .refl _)); done)) (Nat.zero_le _) ?_
         rintro j hj
         refine asr ?_
         refine sS ?_
         refine aops_nil ?_
         refine awp_seq ?_
         refine awp_cond rfl (fun h9 => ?_) (fun h9 => ?_)
         ·
          simp only [nf] at h9
          have hjT : j < T.credits.length := by omega
          have hjS : j < S.credits.length := by omega
          have hcT : Pn.crd T (j : Int) = T.credits[j] := by unfold Pn.crd; rw [List.getD, Int.toNat_natCast, List.getElem?_eq_getElem hjT, Option.getD_some]
          have hcS : Pn.crd S (j : Int) = S.credits[j] := by unfold Pn.crd; rw [List.getD, Int.toNat_natCast, List.getElem?_eq_getElem hjS, Option.getD_some]
          obtain ⟨C, hC⟩ : ∃ c, T.credits[j] = c := ⟨_, rfl⟩
          obtain ⟨O, hO⟩ : ∃ c, S.credits[j] = c := ⟨_, rfl⟩
          have hbd := hstp.bnd hx hv1 (k := j) (by omega)
          rw [hcT, hcS, hC, hO, Pn.pip_get (by omega)] at hbd
          have b1 := hbd.cap; have b2 := hbd.ts; have b3 := hbd.sent; have b4 := hbd.taken
          obtain ⟨b5, b6⟩ := hbd.kept
          have hoT := hvT.ok j (by omega)
          rw [hcT, hC] at hoT
          have o1 := hoT.len; have o2 := hoT.taken; have o3 := hoT.sent; have o4 := hoT.granted; have o5 := hoT.most; have o6 := hoT.room; have o7 := hoT.cap
          have b7 : (O.items.drop (max 0 (min (O.items.length : Int) (C.taken - O.taken))).toNat).length ≤ 1000000 := by omega
          have hoS := hv1.ok j (by omega)
          rw [hcS, hO] at hoS
          have q1 := hoS.len; have q2 := hoS.taken; have q3 := hoS.sent; have q4 := hoS.granted; have q5 := hoS.most
          refine awp_skip ?_
          refine awp_seq ?_
          refine awp_block ?_
          refine asr ?_
          refine sM ?_
          refine st_p (fun _ => by exact y_indexMap (e := C) (.plain rfl) (.plain rfl) rfl ⟨hjT, hC⟩) rfl ?_
          refine sV ?_
          refine sC fun n19 => ?_
          refine sA ?_
          refine st_s (fun _ => by exact y_storeW (by rfl) rfl (.plain rfl) (.plain rfl) (by exact .here) (by rfl)) ?_
          refine aops_nil ?_
          refine asr ?_
          refine sF ?_
          refine sL k3 ?_
          refine sM ?_
          refine st_p (fun _ => by exact y_indexMap (e := O) (.plain rfl) (.plain rfl) rfl ⟨hjS, hO⟩) rfl ?_
          refine sV ?_
          refine sC fun n20 => ?_
          refine st_s (fun _ => by exact y_storeW (by rfl) rfl (.plain rfl) (.plain rfl) (by exact .here) (by rfl)) ?_
          refine aops_nil ?_
          refine awp_seq ?_
          refine awp_seq ?_
          refine awp_any0 (ks := [.free, .free, .free, .free, .free, .free, .free, .free, .free, .free, .free, .free, .free, .free, .free, .free, .free, .free, .free, .free, .free, .free, .free, .free, .free, .free, .free, .free, .free, .free, .free]) (by kernel_rfl) (fun K => ?_) ?_
          ·
           refine rF ?_
           refine rL k1 ?_
           refine rN ?_
           refine rF ?_
           refine rL k5 ?_
           refine rM ?_
           refine dr_p (fun _ => by exact y_indexMap (.plain rfl) (.plain rfl) rfl (by refine ⟨?_, ?_⟩; (omega); rfl)) rfl ?_
           refine dr_p (fun _ => by exact y_fieldE (.plain rfl) (le_ rfl)) rfl ?_
           refine rU ?_
           refine rG ?_
           refine rM ?_
           refine qF ?_
           refine qL0 k1 ?_
           refine qF ?_
           refine qL0 k1 ?_
           refine qG01 ?_
           refine rK ?_
           refine rM ?_
           refine qF ?_
           refine qL0 k1 ?_
           refine qF ?_
           refine qL0 .here ?_
           refine qS01 ?_
           refine rK ?_
           refine rM ?_
           refine qF ?_
           refine qL0 k1 ?_
           refine qF ?_
           refine qL0 .here ?_
           refine qS01 ?_
           refine rK ?_
           refine dr_nil ⟨rfl, ?_⟩
           refine awp_cond rfl (fun h10 => ?_) (fun h10 => ?_)
           ·
            exfalso
            simp at h10
            omega
           ·
            simp only [nf] at h10
            refine awp_skip ?_
            refine asr ?_
            refine sF ?_
            refine sL .here ?_
            refine sF ?_
            refine sL .here ?_
            refine sN ?_
            refine sF ?_
            refine sL k1 ?_
            refine sF ?_
            refine sL .here ?_
            refine st_p (fun _ => by exact y_sub (.plain rfl) (.plain rfl) (by omega)) rfl ?_
            refine st_p (fun _ => by exact y_min (.plain rfl) (.plain rfl)) rfl ?_
            refine st_p (fun _ => by exact y_max (.plain rfl) (.plain rfl)) rfl ?_
            refine st_p (fun _ => by exact y_sliceLoM (l := (max 0 (min (O.items.length : Int) (C.taken - O.taken))).toNat) (.plain rfl) (.plain rfl) (Int.toNat_of_nonneg (Int.le_max_left _ _)).symm (by omega)) rfl ?_
            refine sA ?_
            refine aops_nil ?_
            refine asr ?_
            refine sF ?_
            refine sL k1 ?_
            refine sN ?_
            refine sM ?_
            refine sN ?_
            refine sS ?_
            refine sM ?_
            refine gM ?_
            refine gF ?_
            refine gL0 k1 ?_
            refine gM ?_
            refine gN0 ?_
            refine st_g rfl rfl rfl SaysI.out (fun hc _ => by exact y_sliceHiM (.opt rfl hc) (.opt rfl hc) rfl (by omega)) rfl ?_
            refine st_g rfl rfl rfl SaysI.out (fun hc _ => by exact y_call (.plain rfl) (.cons (.imp (.opt rfl hc) (Sl.imp (enc := Go.Aw.encI))) (.cons (.imp (.opt rfl hc) (Sl.imp (enc := Go.Aw.encI))) .nil)) (ACalls.pure (equalI_c _ _ (by assumption)))) rfl ?_
            refine gO0 ?_
            refine sK ?_
            refine aops_nil ?_
            refine awp_cond rfl (fun h11 => ?_) (fun h11 => ?_)
            ·
             exfalso
             rw [decide_eq_false (by omega), decide_eq_true b5] at h11
             cases h11
            ·
             simp only [nf] at h11
             refine awp_skip ?_
             refine awp_region ?_
             refine sY ?_ (hb := by omega)
             refine sM ?_
             refine aops_nil ?_
             refine ⟨j + 1, by omega, by omega, ?_⟩
             exact Weak.of2 (by (repeat (first | exact .nil _ | refine .cons rfl (by exact AV.Imp.refl _) ?_)); done) (by (repeat (first | exact .nil _ | apply ItLe2.cons (by exact k2))); done)
          ·
           kernel_rfl
         ·
          simp only [nf] at h9
          refine awp_exit ?_
          refine awp_region ?_
          refine sW .here ?_
          refine st_s (fun _ => by exact y_storeW (by rfl) rfl (.plain rfl) (.plain rfl) (by exact u2) (by rfl)) ?_
          refine aops_nil ?_
          refine awp_region ?_
          refine sY ?_ (hb := by omega)
          refine sM ?_
          refine aops_nil ?_
          refine ⟨(k + 1, T), ⟨by show k + 1 ≤ M; omega, hvT, fun h => by show T.draining = false; rw [hdT]; exact hd1 h⟩, by show M - (k + 1) < M - k; omega, ?_⟩
          dsimp only
          exact Weak.of2 (by (repeat (first | exact .nil _ | refine .cons rfl (by exact AV.Imp.refl _) ?_)); done) (by (repeat (first | exact .nil _ | apply ItLe2.cons (by exact k2))); done)
      ·
       simp only [nf] at h6
       obtain ⟨NN, hNN⟩ : ∃ v : Int, v = 0 := ⟨0, rfl⟩
       rw [show AV.val (Value.int IntKind.i64 0) = AV.val (Value.int IntKind.i64 NN) by rw [hNN]]
       refine awp_skip ?_
       refine asr ?_
       refine sW k2 ?_
       refine sW k1 ?_
       refine sM ?_
       refine st_p (fun _ => by exact y_buildSlice (.cons (.plain rfl) inferInstance (by rfl) .nil) rfl (le_ rfl)) rfl ?_
       refine aops_call (blt_lt rfl) (.plain rfl) (.cons (.imp (.plain rfl) (AV.Imp.agg (RowOf.imp (enc := encPl)))) (.cons (.imp (.plain rfl) (AV.Imp.agg (RowOf.imp (enc := encFs)))) (.cons (.imp (.plain rfl) (Sl.imp (enc := Go.Aw.encI))) (.cons (.plain rfl) .nil)))) (ACalls.here (run_c z S [NN] 1 hz2 (hv1.sz hx) (by simp)) ?_)
       refine sM ?_
       refine sE ?_
       refine sE ?_
       refine sE ?_
       refine sC fun n15 => ?_
       refine st_s (fun _ => by exact y_storeW (by rfl) rfl (.plain rfl) (.plain rfl) (by exact .here) (by rfl)) ?_
       refine sA ?_
       refine sA ?_
       refine aops_nil ?_
       refine awp_seq ?_
       refine asr ?_
       refine sM ?_
       refine sR ?_
       refine sM ?_
       refine gM ?_
       refine gN0 ?_
       refine gQ0 ?_
       refine sK ?_
       refine aops_nil ?_
       refine awp_cond rfl (fun h12 => ?_) (fun h12 => ?_)
       ·
        simp only [nf] at h12
        refine awp_exit ?_
        refine asr ?_
        refine aops_call (blt_lt rfl) (.plain rfl) .nil (ACalls.here awake_c ?_)
        refine sA ?_
        refine aops_nil ?_
        refine awp_ret ?_
        refine retG (.inr rfl) (.cons (.tmp rfl) .nil) (VShift.of1 (AV.Imp.refl _) (.nil _)) ⟨congrArg (fun x : (Bool) => (AV.bool x)) (show _ = (true) from ?_), rfl⟩
        rfl
       ·
        simp only [nf] at h12
        obtain ⟨-, -, i0, m0, hstp⟩ := Pn.run1 (x := z) (s := S) (n := NN) (by omega) (by omega)
        obtain ⟨T, hT⟩ : ∃ T : Pn.Fs, T = (Pn.prun z S [NN] 1).1 := ⟨_, rfl⟩
        rw [← hT] at hstp ⊢
        have hvT := hstp.valid hx hv1
        have hlT := hvT.lc
        have hlS := hv1.lc
        have hdT := hstp.dr
        refine awp_skip ?_
        refine awp_seq ?_
        refine asr ?_
        refine sF ?_
        refine sL .here ?_
        refine sN ?_
        refine sF ?_
        refine sL k3 ?_
        refine sN ?_
        refine sR ?_
        refine sM ?_
        refine gF ?_
        refine gL0 k2 ?_
        refine gN0 ?_
        refine gF ?_
        refine gL0 k3 ?_
        refine gN0 ?_
        refine gR01 ?_
        refine sK ?_
        refine aops_nil ?_
        refine awp_cond rfl (fun h13 => ?_) (fun h13 => ?_)
        ·
         exfalso
         simp at h13
         omega
        ·
         simp only [nf] at h13
         refine awp_skip ?_
         refine awp_seq ?_
         refine asr ?_
         refine sF ?_
         refine sL .here ?_
         refine sN ?_
         refine sM ?_
         refine aops_nil ?_
         refine awp_block ?_
         refine awp_loop2 (X := Nat) [1, 3, 4, 9, 15, 37, 38, 98, 99] (.cons rfl (.cons rfl (.cons rfl (.cons rfl (.cons rfl (.cons rfl (.cons rfl (.cons rfl (.cons rfl .nil))))))))) (fun σ x => ((100, .int (x : Int)) : Nat × AV) :: σ) (fun R x => R) (fun x => x ≤ T.credits.length) (fun x => T.credits.length - x) 0 (by exact Weak.of2 (by (repeat (first | exact .nil _ | refine .cons rfl (by exact AV.Imp.refl _) ?_)); done) (by (repeat (exact .refl _)); done)) (Nat.zero_le _) ?_
         rintro j hj
         refine asr ?_
         refine sS ?_
         refine aops_nil ?_
         refine awp_seq ?_
         refine awp_cond rfl (fun h14 => ?_) (fun h14 => ?_)
         ·
          simp only [nf] at h14
          have hjT : j < T.credits.length := by omega
          have hjS : j < S.credits.length := by omega
          have hcT : Pn.crd T (j : Int) = T.credits[j] := by unfold Pn.crd; rw [List.getD, Int.toNat_natCast, List.getElem?_eq_getElem hjT, Option.getD_some]
          have hcS : Pn.crd S (j : Int) = S.credits[j] := by unfold Pn.crd; rw [List.getD, Int.toNat_natCast, List.getElem?_eq_getElem hjS, Option.getD_some]
          obtain ⟨C, hC⟩ : ∃ c, T.credits[j] = c := ⟨_, rfl⟩
          obtain ⟨O, hO⟩ : ∃ c, S.credits[j] = c := ⟨_, rfl⟩
          have hbd := hstp.bnd hx hv1 (k := j) (by omega)
          rw [hcT, hcS, hC, hO, Pn.pip_get (by omega)] at hbd
          have b1 := hbd.cap; have b2 := hbd.ts; have b3 := hbd.sent; have b4 := hbd.taken
          obtain ⟨b5, b6⟩ := hbd.kept
          have hoT := hvT.ok j (by omega)
          rw [hcT, hC] at hoT
          have o1 := hoT.len; have o2 := hoT.taken; have o3 := hoT.sent; have o4 := hoT.granted; have o5 := hoT.most; have o6 := hoT.room; have o7 := hoT.cap
          have b7 : (O.items.drop (max 0 (min (O.items.length : Int) (C.taken - O.taken))).toNat).length ≤ 1000000 := by omega
          have hoS := hv1.ok j (by omega)
          rw [hcS, hO] at hoS
          have q1 := hoS.len; have q2 := hoS.taken; have q3 := hoS.sent; have q4 := hoS.granted; have q5 := hoS.most
          refine awp_skip ?_
          refine awp_seq ?_
          refine awp_block ?_
          refine asr ?_
          refine sM ?_
          refine st_p (fun _ => by exact y_indexMap (e := C) (.plain rfl) (.plain rfl) rfl ⟨hjT, hC⟩) rfl ?_
          refine sV ?_
          refine sC fun n19 => ?_
          refine sA ?_
          refine st_s (fun _ => by exact y_storeW (by rfl) rfl (.plain rfl) (.plain rfl) (by exact .here) (by rfl)) ?_
          refine aops_nil ?_
          refine asr ?_
          refine sF ?_
          refine sL k3 ?_
          refine sM ?_
          refine st_p (fun _ => by exact y_indexMap (e := O) (.plain rfl) (.plain rfl) rfl ⟨hjS, hO⟩) rfl ?_
          refine sV ?_
          refine sC fun n20 => ?_
          refine st_s (fun _ => by exact y_storeW (by rfl) rfl (.plain rfl) (.plain rfl) (by exact .here) (by rfl)) ?_
          refine aops_nil ?_
          refine awp_seq ?_
          refine awp_seq ?_
          refine awp_any0 (ks := [.free, .free, .free, .free, .free, .free, .free, .free, .free, .free, .free, .free, .free, .free, .free, .free, .free, .free, .free, .free, .free, .free, .free, .free, .free, .free, .free, .free, .free, .free, .free]) (by kernel_rfl) (fun K => ?_) ?_
          ·
           refine rF ?_
           refine rL k1 ?_
           refine rN ?_
           refine rF ?_
           refine rL k5 ?_
           refine rM ?_
           refine dr_p (fun _ => by exact y_indexMap (.plain rfl) (.plain rfl) rfl (by refine ⟨?_, ?_⟩; (omega); rfl)) rfl ?_
           refine dr_p (fun _ => by exact y_fieldE (.plain rfl) (le_ rfl)) rfl ?_
           refine rU ?_
           refine rG ?_
           refine rM ?_
           refine qF ?_
           refine qL0 k1 ?_
           refine qF ?_
           refine qL0 k1 ?_
           refine qG01 ?_
           refine rK ?_
           refine rM ?_
           refine qF ?_
           refine qL0 k1 ?_
           refine qF ?_
           refine qL0 .here ?_
           refine qS01 ?_
           refine rK ?_
           refine rM ?_
           refine qF ?_
           refine qL0 k1 ?_
           refine qF ?_
           refine qL0 .here ?_
           refine qS01 ?_
           refine rK ?_
           refine dr_nil ⟨rfl, ?_⟩
           refine awp_cond rfl (fun h15 => ?_) (fun h15 => ?_)
           ·
            exfalso
            simp at h15
            omega
           ·
            simp only [nf] at h15
            refine awp_skip ?_
            refine asr ?_
            refine sF ?_
            refine sL .here ?_
            refine sF ?_
            refine sL .here ?_
            refine sN ?_
            refine sF ?_
            refine sL k1 ?_
            refine sF ?_
            refine sL .here ?_
            refine st_p (fun _ => by exact y_sub (.plain rfl) (.plain rfl) (by omega)) rfl ?_
            refine st_p (fun _ => by exact y_min (.plain rfl) (.plain rfl)) rfl ?_
            refine st_p (fun _ => by exact y_max (.plain rfl) (.plain rfl)) rfl ?_
            refine st_p (fun _ => by exact y_sliceLoM (l := (max 0 (min (O.items.length : Int) (C.taken - O.taken))).toNat) (.plain rfl) (.plain rfl) (Int.toNat_of_nonneg (Int.le_max_left _ _)).symm (by omega)) rfl ?_
            refine sA ?_
            refine aops_nil ?_
            refine asr ?_
            refine sF ?_
            refine sL k1 ?_
            refine sN ?_
            refine sM ?_
            refine sN ?_
            refine sS ?_
            refine sM ?_
            refine gM ?_
            refine gF ?_
            refine gL0 k1 ?_
            refine gM ?_
            refine gN0 ?_
            refine st_g rfl rfl rfl SaysI.out (fun hc _ => by exact y_sliceHiM (.opt rfl hc) (.opt rfl hc) rfl (by omega)) rfl ?_
            refine st_g rfl rfl rfl SaysI.out (fun hc _ => by exact y_call (.plain rfl) (.cons (.imp (.opt rfl hc) (Sl.imp (enc := Go.Aw.encI))) (.cons (.imp (.opt rfl hc) (Sl.imp (enc := Go.Aw.encI))) .nil)) (ACalls.pure (equalI_c _ _ (by assumption)))) rfl ?_
            refine gO0 ?_
            refine sK ?_
            refine aops_nil ?_
            refine awp_cond rfl (fun h16 => ?_) (fun h16 => ?_)
            ·
             exfalso
             rw [decide_eq_false (by omega), decide_eq_true b5] at h16
             cases h16
            ·
             simp only [nf] at h16
             refine awp_skip ?_
             refine awp_region ?_
             refine sY ?_ (hb := by omega)
             refine sM ?_
             refine aops_nil ?_
             refine ⟨j + 1, by omega, by omega, ?_⟩
             exact Weak.of2 (by (repeat (first | exact .nil _ | refine .cons rfl (by exact AV.Imp.refl _) ?_)); done) (by (repeat (first | exact .nil _ | apply ItLe2.cons (by exact k2))); done)
          ·
           kernel_rfl
         ·
          simp only [nf] at h14
          refine awp_exit ?_
          refine awp_region ?_
          refine sW .here ?_
          refine st_s (fun _ => by exact y_storeW (by rfl) rfl (.plain rfl) (.plain rfl) (by exact u2) (by rfl)) ?_
          refine aops_nil ?_
          refine awp_region ?_
          refine sY ?_ (hb := by omega)
          refine sM ?_
          refine aops_nil ?_
          refine ⟨(k + 1, T), ⟨by show k + 1 ≤ M; omega, hvT, fun h => by show T.draining = false; rw [hdT]; exact hd1 h⟩, by show M - (k + 1) < M - k; omega, ?_⟩
          dsimp only
          exact Weak.of2 (by (repeat (first | exact .nil _ | refine .cons rfl (by exact AV.Imp.refl _) ?_)); done) (by (repeat (first | exact .nil _ | apply ItLe2.cons (by exact k2))); done)
    ·
     simp only [nf] at h4
     obtain ⟨S, hS⟩ : ∃ S : Pn.Fs, S = s := ⟨_, rfl⟩
     rw [← hS]
     have hv1 : Pn.Pv z S := by rw [hS]; exact hv
     have hd1 : k + 1 ≤ 10 → S.draining = false := by rw [hS]; exact fun h => hdr (by omega)
     refine awp_skip ?_
     refine asr ?_
     refine sA ?_
     refine aops_nil ?_
     refine awp_seq ?_
     refine asr ?_
     refine sM ?_
     refine sN ?_
     refine sG ?_
     refine aops_nil ?_
     refine awp_cond rfl (fun h17 => ?_) (fun h17 => ?_)
     ·
      simp only [nf] at h17
      have hkb := Pn.tmod_bd (k : Int) (n := (l.length : Int)) (by omega)
      have hk0 := Int.tmod_nonneg (l.length : Int) (show (0 : Int) ≤ (k : Int) by omega)
      refine awp_region ?_
      refine sM ?_
      refine sM ?_
      refine sM ?_
      refine sN ?_
      refine st_p (fun _ => by exact y_rem (.plain rfl) (.plain rfl) (by omega)) rfl ?_
      refine st_p (fun _ => by exact y_indexT (l := l) (.plain rfl) (.plain rfl) (by omega) (by omega)) rfl ?_
      refine sU ?_
      refine sA ?_
      refine aops_nil ?_
      obtain ⟨NN, hNN⟩ : ∃ v : Int, v = l.getD ((k : Int).tmod (l.length : Int)).toNat default := ⟨_, rfl⟩
      rw [← hNN]
      refine asr ?_
      refine sW k1 ?_
      refine sW .here ?_
      refine sM ?_
      refine st_p (fun _ => by exact y_buildSlice (.cons (.plain rfl) inferInstance (by rfl) .nil) rfl (le_ rfl)) rfl ?_
      refine aops_call (blt_lt rfl) (.plain rfl) (.cons (.imp (.plain rfl) (AV.Imp.agg (RowOf.imp (enc := encPl)))) (.cons (.imp (.plain rfl) (AV.Imp.agg (RowOf.imp (enc := encFs)))) (.cons (.imp (.plain rfl) (Sl.imp (enc := Go.Aw.encI))) (.cons (.plain rfl) .nil)))) (ACalls.here (run_c z S [NN] 1 hz2 (hv1.sz hx) (by simp)) ?_)
      refine sM ?_
      refine sE ?_
      refine sE ?_
      refine sE ?_
      refine sC fun n15 => ?_
      refine st_s (fun _ => by exact y_storeW (by rfl) rfl (.plain rfl) (.plain rfl) (by exact .here) (by rfl)) ?_
      refine sA ?_
      refine sA ?_
      refine aops_nil ?_
      refine awp_seq ?_
      refine asr ?_
      refine sM ?_
      refine sR ?_
      refine sM ?_
      refine gM ?_
      refine gN0 ?_
      refine gQ0 ?_
      refine sK ?_
      refine aops_nil ?_
      refine awp_cond rfl (fun h18 => ?_) (fun h18 => ?_)
      ·
       simp only [nf] at h18
       refine awp_exit ?_
       refine asr ?_
       refine aops_call (blt_lt rfl) (.plain rfl) .nil (ACalls.here awake_c ?_)
       refine sA ?_
       refine aops_nil ?_
       refine awp_ret ?_
       refine retG (.inr rfl) (.cons (.tmp rfl) .nil) (VShift.of1 (AV.Imp.refl _) (.nil _)) ⟨congrArg (fun x : (Bool) => (AV.bool x)) (show _ = (true) from ?_), rfl⟩
       rfl
      ·
       simp only [nf] at h18
       obtain ⟨-, -, i0, m0, hstp⟩ := Pn.run1 (x := z) (s := S) (n := NN) (by omega) (by omega)
       obtain ⟨T, hT⟩ : ∃ T : Pn.Fs, T = (Pn.prun z S [NN] 1).1 := ⟨_, rfl⟩
       rw [← hT] at hstp ⊢
       have hvT := hstp.valid hx hv1
       have hlT := hvT.lc
       have hlS := hv1.lc
       have hdT := hstp.dr
       refine awp_skip ?_
       refine awp_seq ?_
       refine asr ?_
       refine sF ?_
       refine sL .here ?_
       refine sN ?_
       refine sF ?_
       refine sL k2 ?_
       refine sN ?_
       refine sR ?_
       refine sM ?_
       refine gF ?_
       refine gL0 k1 ?_
       refine gN0 ?_
       refine gF ?_
       refine gL0 k2 ?_
       refine gN0 ?_
       refine gR01 ?_
       refine sK ?_
       refine aops_nil ?_
       refine awp_cond rfl (fun h19 => ?_) (fun h19 => ?_)
       ·
        exfalso
        simp at h19
        omega
       ·
        simp only [nf] at h19
        refine awp_skip ?_
        refine awp_seq ?_
        refine asr ?_
        refine sF ?_
        refine sL .here ?_
        refine sN ?_
        refine sM ?_
        refine aops_nil ?_
        refine awp_block ?_
        refine awp_loop2 (X := Nat) [1, 3, 4, 9, 15, 37, 38, 98, 99] (.cons rfl (.cons rfl (.cons rfl (.cons rfl (.cons rfl (.cons rfl (.cons rfl (.cons rfl (.cons rfl .nil))))))))) (fun σ x => ((100, .int (x : Int)) : Nat × AV) :: σ) (fun R x => R) (fun x => x ≤ T.credits.length) (fun x => T.credits.length - x) 0 (by exact Weak.of2 (by (repeat (first | exact .nil _ | refine .cons rfl (by exact AV.Imp.refl _) ?_)); done) (by (repeat (exact .refl _)); done)) (Nat.zero_le _) ?_
        rintro j hj
        refine asr ?_
        refine sS ?_
        refine aops_nil ?_
        refine awp_seq ?_
        refine awp_cond rfl (fun h20 => ?_) (fun h20 => ?_)
        ·
         simp only [nf] at h20
         have hjT : j < T.credits.length := by omega
         have hjS : j < S.credits.length := by omega
         have hcT : Pn.crd T (j : Int) = T.credits[j] := by unfold Pn.crd; rw [List.getD, Int.toNat_natCast, List.getElem?_eq_getElem hjT, Option.getD_some]
         have hcS : Pn.crd S (j : Int) = S.credits[j] := by unfold Pn.crd; rw [List.getD, Int.toNat_natCast, List.getElem?_eq_getElem hjS, Option.getD_some]
         obtain ⟨C, hC⟩ : ∃ c, T.credits[j] = c := ⟨_, rfl⟩
         obtain ⟨O, hO⟩ : ∃ c, S.credits[j] = c := ⟨_, rfl⟩
         have hbd := hstp.bnd hx hv1 (k := j) (by omega)
         rw [hcT, hcS, hC, hO, Pn.pip_get (by omega)] at hbd
         have b1 := hbd.cap; have b2 := hbd.ts; have b3 := hbd.sent; have b4 := hbd.taken
         obtain ⟨b5, b6⟩ := hbd.kept
         have hoT := hvT.ok j (by omega)
         rw [hcT, hC] at hoT
         have o1 := hoT.len; have o2 := hoT.taken; have o3 := hoT.sent; have o4 := hoT.granted; have o5 := hoT.most; have o6 := hoT.room; have o7 := hoT.cap
         have b7 : (O.items.drop (max 0 (min (O.items.length : Int) (C.taken - O.taken))).toNat).length ≤ 1000000 := by omega
         have hoS := hv1.ok j (by omega)
         rw [hcS, hO] at hoS
         have q1 := hoS.len; have q2 := hoS.taken; have q3 := hoS.sent; have q4 := hoS.granted; have q5 := hoS.most
         refine awp_skip ?_
         refine awp_seq ?_
         refine awp_block ?_
         refine asr ?_
         refine sM ?_
         refine st_p (fun _ => by exact y_indexMap (e := C) (.plain rfl) (.plain rfl) rfl ⟨hjT, hC⟩) rfl ?_
         refine sV ?_
         refine sC fun n19 => ?_
         refine sA ?_
         refine st_s (fun _ => by exact y_storeW (by rfl) rfl (.plain rfl) (.plain rfl) (by exact .here) (by rfl)) ?_
         refine aops_nil ?_
         refine asr ?_
         refine sF ?_
         refine sL k2 ?_
         refine sM ?_
         refine st_p (fun _ => by exact y_indexMap (e := O) (.plain rfl) (.plain rfl) rfl ⟨hjS, hO⟩) rfl ?_
         refine sV ?_
         refine sC fun n20 => ?_
         refine st_s (fun _ => by exact y_storeW (by rfl) rfl (.plain rfl) (.plain rfl) (by exact .here) (by rfl)) ?_
         refine aops_nil ?_
         refine awp_seq ?_
         refine awp_seq ?_
         refine awp_any0 (ks := [.free, .free, .free, .free, .free, .free, .free, .free, .free, .free, .free, .free, .free, .free, .free, .free, .free, .free, .free, .free, .free, .free, .free, .free, .free, .free, .free, .free, .free, .free, .free]) (by kernel_rfl) (fun K => ?_) ?_
         ·
          refine rF ?_
          refine rL k1 ?_
          refine rN ?_
          refine rF ?_
          refine rL k4 ?_
          refine rM ?_
          refine dr_p (fun _ => by exact y_indexMap (.plain rfl) (.plain rfl) rfl (by refine ⟨?_, ?_⟩; (omega); rfl)) rfl ?_
          refine dr_p (fun _ => by exact y_fieldE (.plain rfl) (le_ rfl)) rfl ?_
          refine rU ?_
          refine rG ?_
          refine rM ?_
          refine qF ?_
          refine qL0 k1 ?_
          refine qF ?_
          refine qL0 k1 ?_
          refine qG01 ?_
          refine rK ?_
          refine rM ?_
          refine qF ?_
          refine qL0 k1 ?_
          refine qF ?_
          refine qL0 .here ?_
          refine qS01 ?_
          refine rK ?_
          refine rM ?_
          refine qF ?_
          refine qL0 k1 ?_
          refine qF ?_
          refine qL0 .here ?_
          refine qS01 ?_
          refine rK ?_
          refine dr_nil ⟨rfl, ?_⟩
          refine awp_cond rfl (fun h21 => ?_) (fun h21 => ?_)
          ·
           exfalso
           simp at h21
           omega
          ·
           simp only [nf] at h21
           refine awp_skip ?_
           refine asr ?_
           refine sF ?_
           refine sL .here ?_
           refine sF ?_
           refine sL .here ?_
           refine sN ?_
           refine sF ?_
           refine sL k1 ?_
           refine sF ?_
           refine sL .here ?_
           refine st_p (fun _ => by exact y_sub (.plain rfl) (.plain rfl) (by omega)) rfl ?_
           refine st_p (fun _ => by exact y_min (.plain rfl) (.plain rfl)) rfl ?_
           refine st_p (fun _ => by exact y_max (.plain rfl) (.plain rfl)) rfl ?_
           refine st_p (fun _ => by exact y_sliceLoM (l := (max 0 (min (O.items.length : Int) (C.taken - O.taken))).toNat) (.plain rfl) (.plain rfl) (Int.toNat_of_nonneg (Int.le_max_left _ _)).symm (by omega)) rfl ?_
           refine sA ?_
           refine aops_nil ?_
           refine asr ?_
           refine sF ?_
           refine sL k1 ?_
           refine sN ?_
           refine sM ?_
           refine sN ?_
           refine sS ?_
           refine sM ?_
           refine gM ?_
           refine gF ?_
           refine gL0 k1 ?_
           refine gM ?_
           refine gN0 ?_
           refine st_g rfl rfl rfl SaysI.out (fun hc _ => by exact y_sliceHiM (.opt rfl hc) (.opt rfl hc) rfl (by omega)) rfl ?_
           refine st_g rfl rfl rfl SaysI.out (fun hc _ => by exact y_call (.plain rfl) (.cons (.imp (.opt rfl hc) (Sl.imp (enc := Go.Aw.encI))) (.cons (.imp (.opt rfl hc) (Sl.imp (enc := Go.Aw.encI))) .nil)) (ACalls.pure (equalI_c _ _ (by assumption)))) rfl ?_
           refine gO0 ?_
           refine sK ?_
           refine aops_nil ?_
           refine awp_cond rfl (fun h22 => ?_) (fun h22 => ?_)
           ·
            exfalso
            rw [decide_eq_false (by omega), decide_eq_true b5] at h22
            cases h22
           ·
            simp only [nf] at h22
            refine awp_skip ?_
            refine awp_region ?_
            refine sY ?_ (hb := by omega)
            refine sM ?_
            refine aops_nil ?_
            refine ⟨j + 1, by omega, by omega, ?_⟩
            exact Weak.of2 (by (repeat (first | exact .nil _ | refine .cons rfl (by exact AV.Imp.refl _) ?_)); done) (by (repeat (first | exact .nil _ | apply ItLe2.cons (by exact k2))); done)
         ·
          kernel_rfl
        ·
         simp only [nf] at h20
         refine awp_exit ?_
         refine awp_region ?_
         refine sW .here ?_
         refine st_s (fun _ => by exact y_storeW (by rfl) rfl (.plain rfl) (.plain rfl) (by exact u1) (by rfl)) ?_
         refine aops_nil ?_
         refine awp_region ?_
         refine sY ?_ (hb := by omega)
         refine sM ?_
         refine aops_nil ?_
         refine ⟨(k + 1, T), ⟨by show k + 1 ≤ M; omega, hvT, fun h => by show T.draining = false; rw [hdT]; exact hd1 h⟩, by show M - (k + 1) < M - k; omega, ?_⟩
         dsimp only
         exact Weak.of2 (by (repeat (first | exact .nil _ | refine .cons rfl (by exact AV.Imp.refl _) ?_)); done) (by (repeat (first | exact .nil _ | apply ItLe2.cons (by exact k1))); done)
     ·
      simp only [nf] at h17
      obtain ⟨NN, hNN⟩ : ∃ v : Int, v = 0 := ⟨0, rfl⟩
      rw [show AV.val (Value.int IntKind.i64 0) = AV.val (Value.int IntKind.i64 NN) by rw [hNN]]
      refine awp_skip ?_
      refine asr ?_
      refine sW k1 ?_
      refine sW .here ?_
      refine sM ?_
      refine st_p (fun _ => by exact y_buildSlice (.cons (.plain rfl) inferInstance (by rfl) .nil) rfl (le_ rfl)) rfl ?_
      refine aops_call (blt_lt rfl) (.plain rfl) (.cons (.imp (.plain rfl) (AV.Imp.agg (RowOf.imp (enc := encPl)))) (.cons (.imp (.plain rfl) (AV.Imp.agg (RowOf.imp (enc := encFs)))) (.cons (.imp (.plain rfl) (Sl.imp (enc := Go.Aw.encI))) (.cons (.plain rfl) .nil)))) (ACalls.here (run_c z S [NN] 1 hz2 (hv1.sz hx) (by simp)) ?_)
      refine sM ?_
      refine sE ?_
      refine sE ?_
      refine sE ?_
      refine sC fun n15 => ?_
      refine st_s (fun _ => by exact y_storeW (by rfl) rfl (.plain rfl) (.plain rfl) (by exact .here) (by rfl)) ?_
      refine sA ?_
      refine sA ?_
      refine aops_nil ?_
      refine awp_seq ?_
      refine asr ?_
      refine sM ?_
      refine sR ?_
      refine sM ?_
      refine gM ?_
      refine gN0 ?_
      refine gQ0 ?_
      refine sK ?_
      refine aops_nil ?_
      refine awp_cond rfl (fun h23 => ?_) (fun h23 => ?_)
      ·
       simp only [nf] at h23
       refine awp_exit ?_
       refine asr ?_
       refine aops_call (blt_lt rfl) (.plain rfl) .nil (ACalls.here awake_c ?_)
       refine sA ?_
       refine aops_nil ?_
       refine awp_ret ?_
       refine retG (.inr rfl) (.cons (.tmp rfl) .nil) (VShift.of1 (AV.Imp.refl _) (.nil _)) ⟨congrArg (fun x : (Bool) => (AV.bool x)) (show _ = (true) from ?_), rfl⟩
       rfl
      ·
       simp only [nf] at h23
       obtain ⟨-, -, i0, m0, hstp⟩ := Pn.run1 (x := z) (s := S) (n := NN) (by omega) (by omega)
       obtain ⟨T, hT⟩ : ∃ T : Pn.Fs, T = (Pn.prun z S [NN] 1).1 := ⟨_, rfl⟩
       rw [← hT] at hstp ⊢
       have hvT := hstp.valid hx hv1
       have hlT := hvT.lc
       have hlS := hv1.lc
       have hdT := hstp.dr
       refine awp_skip ?_
       refine awp_seq ?_
       refine asr ?_
       refine sF ?_
       refine sL .here ?_
       refine sN ?_
       refine sF ?_
       refine sL k2 ?_
       refine sN ?_
       refine sR ?_
       refine sM ?_
       refine gF ?_
       refine gL0 k1 ?_
       refine gN0 ?_
       refine gF ?_
       refine gL0 k2 ?_
       refine gN0 ?_
       refine gR01 ?_
       refine sK ?_
       refine aops_nil ?_
       refine awp_cond rfl (fun h24 => ?_) (fun h24 => ?_)
       ·
        exfalso
        simp at h24
        omega
       ·
        simp only [nf] at h24
        refine awp_skip ?_
        refine awp_seq ?_
        refine asr ?_
        refine sF ?_
        refine sL .here ?_
        refine sN ?_
        refine sM ?_
        refine aops_nil ?_
        refine awp_block ?_
        refine awp_loop2 (X := Nat) [1, 3, 4, 9, 15, 37, 38, 98, 99] (.cons rfl (.cons rfl (.cons rfl (.cons rfl (.cons rfl (.cons rfl (.cons rfl (.cons rfl (.cons rfl .nil))))))))) (fun σ x => ((100, .int (x : Int)) : Nat × AV) :: σ) (fun R x => R) (fun x => x ≤ T.credits.length) (fun x => T.credits.length - x) 0 (by exact Weak.of2 (by (repeat (first | exact .nil _ | refine .cons rfl (by exact AV.Imp.refl _) ?_)); done) (by (repeat (exact .refl _)); done)) (Nat.zero_le _) ?_
        rintro j hj
        refine asr ?_
        refine sS ?_
        refine aops_nil ?_
        refine awp_seq ?_
        refine awp_cond rfl (fun h25 => ?_) (fun h25 => ?_)
        ·
         simp only [nf] at h25
         have hjT : j < T.credits.length := by omega
         have hjS : j < S.credits.length := by omega
         have hcT : Pn.crd T (j : Int) = T.credits[j] := by unfold Pn.crd; rw [List.getD, Int.toNat_natCast, List.getElem?_eq_getElem hjT, Option.getD_some]
         have hcS : Pn.crd S (j : Int) = S.credits[j] := by unfold Pn.crd; rw [List.getD, Int.toNat_natCast, List.getElem?_eq_getElem hjS, Option.getD_some]
         obtain ⟨C, hC⟩ : ∃ c, T.credits[j] = c := ⟨_, rfl⟩
         obtain ⟨O, hO⟩ : ∃ c, S.credits[j] = c := ⟨_, rfl⟩
         have hbd := hstp.bnd hx hv1 (k := j) (by omega)
         rw [hcT, hcS, hC, hO, Pn.pip_get (by omega)] at hbd
         have b1 := hbd.cap; have b2 := hbd.ts; have b3 := hbd.sent; have b4 := hbd.taken
         obtain ⟨b5, b6⟩ := hbd.kept
         have hoT := hvT.ok j (by omega)
         rw [hcT, hC] at hoT
         have o1 := hoT.len; have o2 := hoT.taken; have o3 := hoT.sent; have o4 := hoT.granted; have o5 := hoT.most; have o6 := hoT.room; have o7 := hoT.cap
         have b7 : (O.items.drop (max 0 (min (O.items.length : Int) (C.taken - O.taken))).toNat).length ≤ 1000000 := by omega
         have hoS := hv1.ok j (by omega)
         rw [hcS, hO] at hoS
         have q1 := hoS.len; have q2 := hoS.taken; have q3 := hoS.sent; have q4 := hoS.granted; have q5 := hoS.most
         refine awp_skip ?_
         refine awp_seq ?_
         refine awp_block ?_
         refine asr ?_
         refine sM ?_
         refine st_p (fun _ => by exact y_indexMap (e := C) (.plain rfl) (.plain rfl) rfl ⟨hjT, hC⟩) rfl ?_
         refine sV ?_
         refine sC fun n19 => ?_
         refine sA ?_
         refine st_s (fun _ => by exact y_storeW (by rfl) rfl (.plain rfl) (.plain rfl) (by exact .here) (by rfl)) ?_
         refine aops_nil ?_
         refine asr ?_
         refine sF ?_
         refine sL k2 ?_
         refine sM ?_
         refine st_p (fun _ => by exact y_indexMap (e := O) (.plain rfl) (.plain rfl) rfl ⟨hjS, hO⟩) rfl ?_
         refine sV ?_
         refine sC fun n20 => ?_
         refine st_s (fun _ => by exact y_storeW (by rfl) rfl (.plain rfl) (.plain rfl) (by exact .here) (by rfl)) ?_
         refine aops_nil ?_
         refine awp_seq ?_
         refine awp_seq ?_
         refine awp_any0 (ks := [.free, .free, .free, .free, .free, .free, .free, .free, .free, .free, .free, .free, .free, .free, .free, .free, .free, .free, .free, .free, .free, .free, .free, .free, .free, .free, .free, .free, .free, .free, .free]) (by kernel_rfl) (fun K => ?_) ?_
         ·
          refine rF ?_
          refine rL k1 ?_
          refine rN ?_
          refine rF ?_
          refine rL k4 ?_
          refine rM ?_
          refine dr_p (fun _ => by exact y_indexMap (.plain rfl) (.plain rfl) rfl (by refine ⟨?_, ?_⟩; (omega); rfl)) rfl ?_
          refine dr_p (fun _ => by exact y_fieldE (.plain rfl) (le_ rfl)) rfl ?_
          refine rU ?_
          refine rG ?_
          refine rM ?_
          refine qF ?_
          refine qL0 k1 ?_
          refine qF ?_
          refine qL0 k1 ?_
          refine qG01 ?_
          refine rK ?_
          refine rM ?_
          refine qF ?_
          refine qL0 k1 ?_
          refine qF ?_
          refine qL0 .here ?_
          refine qS01 ?_
          refine rK ?_
          refine rM ?_
          refine qF ?_
          refine qL0 k1 ?_
          refine qF ?_
          refine qL0 .here ?_
          refine qS01 ?_
          refine rK ?_
          refine dr_nil ⟨rfl, ?_⟩
          refine awp_cond rfl (fun h26 => ?_) (fun h26 => ?_)
          ·
           exfalso
           simp at h26
           omega
          ·
           simp only [nf] at h26
           refine awp_skip ?_
           refine asr ?_
           refine sF ?_
           refine sL .here ?_
           refine sF ?_
           refine sL .here ?_
           refine sN ?_
           refine sF ?_
           refine sL k1 ?_
           refine sF ?_
           refine sL .here ?_
           refine st_p (fun _ => by exact y_sub (.plain rfl) (.plain rfl) (by omega)) rfl ?_
           refine st_p (fun _ => by exact y_min (.plain rfl) (.plain rfl)) rfl ?_
           refine st_p (fun _ => by exact y_max (.plain rfl) (.plain rfl)) rfl ?_
           refine st_p (fun _ => by exact y_sliceLoM (l := (max 0 (min (O.items.length : Int) (C.taken - O.taken))).toNat) (.plain rfl) (.plain rfl) (Int.toNat_of_nonneg (Int.le_max_left _ _)).symm (by omega)) rfl ?_
           refine sA ?_
           refine aops_nil ?_
           refine asr ?_
           refine sF ?_
           refine sL k1 ?_
           refine sN ?_
           refine sM ?_
           refine sN ?_
           refine sS ?_
           refine sM ?_
           refine gM ?_
           refine gF ?_
           refine gL0 k1 ?_
           refine gM ?_
           refine gN0 ?_
           refine st_g rfl rfl rfl SaysI.out (fun hc _ => by exact y_sliceHiM (.opt rfl hc) (.opt rfl hc) rfl (by omega)) rfl ?_
           refine st_g rfl rfl rfl SaysI.out (fun hc _ => by exact y_call (.plain rfl) (.cons (.imp (.opt rfl hc) (Sl.imp (enc := Go.Aw.encI))) (.cons (.imp (.opt rfl hc) (Sl.imp (enc := Go.Aw.encI))) .nil)) (ACalls.pure (equalI_c _ _ (by assumption)))) rfl ?_
           refine gO0 ?_
           refine sK ?_
           refine aops_nil ?_
           refine awp_cond rfl (fun h27 => ?_) (fun h27 => ?_)
           ·
            exfalso
            rw [decide_eq_false (by omega), decide_eq_true b5] at h27
            cases h27
           ·
            simp only [nf] at h27
            refine awp_skip ?_
            refine awp_region ?_
            refine sY ?_ (hb := by omega)
            refine sM ?_
            refine aops_nil ?_
            refine ⟨j + 1, by omega, by omega, ?_⟩
            exact Weak.of2 (by (repeat (first | exact .nil _ | refine .cons rfl (by exact AV.Imp.refl _) ?_)); done) (by (repeat (first | exact .nil _ | apply ItLe2.cons (by exact k2))); done)
         ·
          kernel_rfl
        ·
         simp only [nf] at h25
         refine awp_exit ?_
         refine awp_region ?_
         refine sW .here ?_
         refine st_s (fun _ => by exact y_storeW (by rfl) rfl (.plain rfl) (.plain rfl) (by exact u1) (by rfl)) ?_
         refine aops_nil ?_
         refine awp_region ?_
         refine sY ?_ (hb := by omega)
         refine sM ?_
         refine aops_nil ?_
         refine ⟨(k + 1, T), ⟨by show k + 1 ≤ M; omega, hvT, fun h => by show T.draining = false; rw [hdT]; exact hd1 h⟩, by show M - (k + 1) < M - k; omega, ?_⟩
         dsimp only
         exact Weak.of2 (by (repeat (first | exact .nil _ | refine .cons rfl (by exact AV.Imp.refl _) ?_)); done) (by (repeat (first | exact .nil _ | apply ItLe2.cons (by exact k1))); done)
   ·
    simp only [nf] at h3
    refine awp_exit ?_
    refine asr ?_
    refine aops_call (blt_lt rfl) (.plain rfl) .nil (ACalls.here awake_c ?_)
    refine sA ?_
    refine aops_nil ?_
    refine awp_ret ?_
    refine retG (.inr rfl) (.cons (.tmp rfl) .nil) (VShift.of1 (AV.Imp.refl _) (.nil _)) ⟨congrArg (fun x : (Bool) => (AV.bool x)) (show _ = (true) from ?_), rfl⟩
    rfl
set_option maxRecDepth 100000 in
theorem topDrainBounds_lifted (os : Os) (started : os.Started) (H : Type) (enc : TypeId × Value → H) :
  ReturnsInHanded {} Tryz.checked os 3 .any (YtplpmodeoiklcaaGreat.Rows.topDrainBoundsSpec.pre6 enc Tryz.prog Tryz.f3 YtplpmodeoiklcaaGreat.Rows.topDrainBoundsRow.domain false) (YtplpmodeoiklcaaGreat.Rows.topDrainBoundsSpec.post enc Tryz.prog Tryz.f3 false true false false) := by
 refine returnsInHanded_of_change (C := Tryz.checked) (s := YtplpmodeoiklcaaGreat.Rows.topDrainBoundsSpec) ownK started (by kernel_rfl) Tryz.func3
  (ChangeSpec.witness6 (C := Tryz.checked) (s := YtplpmodeoiklcaaGreat.Rows.topDrainBoundsSpec) false ⟨#[], #[.agg #[.slice none 0 0, .slice none 0 0], .slice none 0 0, .int .u8 0, .bool false], []⟩ 8 (by kernel_rfl) (by kernel_rfl) (by kernel_rfl) (by kernel_rfl) (by kernel_rfl)) ?_
 intro W base args ds gs before hval hW _ _
 refine law_row (TB := 4) (by rw [Tryz.params3]) ((.agg rdPl (by kernel_rfl) (.scalar rdLI0 (by kernel_rfl) (.scalar rdU (by kernel_rfl) (.scalar rdB (by kernel_rfl) .nil))))) (fun a h => boundsLaw_c a.1 a.2.1 a.2.2.1 a.2.2.2.1 h.1 h.2.2.1) laidK (by kernel_rfl) rfl Tryz.underlying4 rfl (fun ds' h => ?_) hval hW
 rw [Tryz.params3] at h
 match ds', h with
 | [d0, d1, d2, d3], _ => rfl
namespace YtplpmodeoiklcaaGreat
theorem topDrainBounds_holds : Rows.TopDrainBoundsSaid :=
 OpenClaim.holds_of_wide 3 Tryz.f3 rfl rfl rfl rfl rfl rfl rfl ⟨rfl, rfl, rfl, rfl, rfl⟩ rfl rfl rfl rfl rfl (by kernel_rfl) Tryz.func3 (by kernel_rfl)
  (of_decide_eq_true (by kernel_rfl)) (by unfold Func.isWrapper; (rw [if_neg (by decide +kernel)]; exact ⟨rfl, rfl⟩))
  (fun os started H enc _ => topDrainBounds_lifted os started H enc)
end YtplpmodeoiklcaaGreat
end Go.Proofs
