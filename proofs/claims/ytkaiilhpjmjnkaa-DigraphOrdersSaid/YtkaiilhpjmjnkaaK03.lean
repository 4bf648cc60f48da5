/- The cycles. -/
import Derived.Test.YtkaiilhpjmjnkaaJ03
set_option linter.unusedVariables false
set_option linter.unusedSimpArgs false
set_option maxRecDepth 10000
namespace Go.Proofs
open Go.Aw Wl Dg
theorem around_c (g : Dg.Gr) (u : Int) (hg : Dg.OkG g) (hu : 0 ≤ u ∧ u < g.n) : ACalls Try.prog 47 [(AV.agg (encG g)), (AV.int u)] [] (fun v st => v = (AV.sl 1 (List.map encI (Dg.around g u))) ∧ st = []) := by
  refine acallsX_body Try.func47 (by kernel_rfl) rfl Try.ntmps47 (le_ rfl) ?_
  rw [Try.results47]
  have hgn := hg.nb
  refine awx_seq ?_
  refine awx_region rfl ?_
  refine st_n (fun _ => by exact y_box (.plain rfl)) rfl fun n2 => ?_
  refine st_p (fun _ => by exact y_assign (.plain rfl)) rfl ?_
  refine aops_nil ?_
  refine awx_seq ?_
  refine awx_region rfl ?_
  refine st_p (fun _ => by exact y_loadW (.plain rfl) (by first | exact .here | exact k1 | exact k2 | exact k3 | exact k4 | exact k5 | exact k6 | exact k7 | exact k8 | exact k9 | exact k10 | exact k11 | exact k12 | exact k13) (by rfl)) rfl ?_
  refine st_p (fun _ => by exact y_move (.plain rfl)) rfl ?_
  refine aops_call (blt_lt rfl) (.plain rfl) (.cons (.imp (.plain rfl) (AV.Imp.agg (RowOf.imp (enc := encG)))) (.cons (.plain rfl) .nil)) (ACalls.here (dist_c g u hg hu) ?_)
  refine st_n (fun _ => by exact y_alloc) rfl fun n5 => ?_
  refine st_s (fun _ => by exact y_storeW (by rfl) rfl (.plain rfl) (.plain rfl) (by first | exact .here | exact u1 | exact u2 | exact u3 | exact u4 | exact u5 | exact u6 | exact u7 | exact u8 | exact u9 | exact u10 | exact u11 | exact u12 | exact u13) (by rfl)) ?_
  refine aops_nil ?_
  refine awx_seq ?_
  refine awx_region rfl ?_
  refine st_n (fun _ => by exact y_alloc) rfl fun n6 => ?_
  refine st_s (fun _ => by exact y_storeW (by rfl) rfl (.plain rfl) (.plain rfl) (by first | exact .here | exact u1 | exact u2 | exact u3 | exact u4 | exact u5 | exact u6 | exact u7 | exact u8 | exact u9 | exact u10 | exact u11 | exact u12 | exact u13) (by rfl)) ?_
  refine aops_nil ?_
  refine awx_seq ?_
  refine awx_seq ?_
  refine awx_region rfl ?_
  refine st_p (fun _ => by exact y_loadW (.plain rfl) (by first | exact .here | exact k1 | exact k2 | exact k3 | exact k4 | exact k5 | exact k6 | exact k7 | exact k8 | exact k9 | exact k10 | exact k11 | exact k12 | exact k13) (by rfl)) rfl ?_
  refine st_p (fun _ => by exact y_move (.plain rfl)) rfl ?_
  refine aops_call (blt_lt rfl) (.plain rfl) (.cons (.plain rfl) (.cons (.plain rfl) .nil)) (ACalls.frame (st1 := []) (succ0_c g u) (List.Perm.refl _) ?_)
  rintro v st ⟨si0, sj0, rfl, rfl⟩
  refine aops_nil ?_
  refine awx_block ?_
  refine awx_rangeFunc rfl fun iL iD T fn D RS hRS => ?_
  refine ACalls.frame (succ_c g hg u hu si0 sj0 (.yld iL _ _ T) (fun i st => st = Aw.Item.raw iL (RS .ready none) :: [.cells n6 [.int (Dg.lst (Dg.dist g u) ((Dg.suc g u).take i))], .cells n5 [.sl 1 ((Dg.distL g u).map encI)]]) (fun _ => False) _ rfl ?_) (Takes.perm (by apply Takes.cons (by first | exact .here | exact k1 | exact k2 | exact k3 | exact k4 | exact k5 | exact k6 | exact k7 | exact k8 | exact k9 | exact k10 | exact k11 | exact k12 | exact k13); apply Takes.cons (by first | exact .here | exact k1 | exact k2 | exact k3 | exact k4 | exact k5 | exact k6 | exact k7 | exact k8 | exact k9 | exact k10 | exact k11 | exact k12 | exact k13); apply Takes.cons (by first | exact .here | exact k1 | exact k2 | exact k3 | exact k4 | exact k5 | exact k6 | exact k7 | exact k8 | exact k9 | exact k10 | exact k11 | exact k12 | exact k13); apply Takes.cons (by first | exact .here | exact k1 | exact k2 | exact k3 | exact k4 | exact k5 | exact k6 | exact k7 | exact k8 | exact k9 | exact k10 | exact k11 | exact k12 | exact k13); apply Takes.cons (by first | exact .here | exact k1 | exact k2 | exact k3 | exact k4 | exact k5 | exact k6 | exact k7 | exact k8 | exact k9 | exact k10 | exact k11 | exact k12 | exact k13); exact .nil _)) ?_
  · skip
    rintro i hi st rfl
    have hvb := (hg.row u).2 _ (List.getElem_mem hi)
    have hdv := Dg.dist_get (t := u) hvb
    have hls := Dg.lst_succ (Dg.dist g u) (Dg.suc g u) hi
    refine AYields.round hRS (by decide) rfl (fun lb => ?_)
    refine awx_region rfl ?_
    refine st_p (fun _ => by exact y_assign (.plain rfl)) rfl ?_
    refine aops_nil ?_
    refine ⟨rfl, ?_⟩
    refine awx_block ?_
    refine awx_seq ?_
    refine awx_anyT (ks := [.free, .free, .free, .free, .free, .free, .free, .free, .free, .free, .free, .free, .free, .free, .free, .free, .free]) [] (.nil _) (by kernel_rfl) rfl (fun K => ?_) ?_
    · skip
      refine dr_p (fun _ => by exact y_load (.plain rfl) (by first | exact .here | exact k1 | exact k2 | exact k3 | exact k4 | exact k5 | exact k6 | exact k7 | exact k8 | exact k9 | exact k10 | exact k11 | exact k12 | exact k13) rfl) rfl ?_
      refine dr_p (fun _ => by exact y_move (.plain rfl)) rfl ?_
      refine dr_p (fun _ => by exact y_indexT (.plain rfl) (.plain rfl) hvb.1 (by rw [Dg.distL, bl_len]; omega)) rfl ?_
      refine dr_p (fun _ => by exact y_loadE (.plain rfl) rfl) rfl ?_
      refine dr_p (fun _ => by exact y_geq (.plain rfl) (.plain rfl)) rfl ?_
      refine dr_p (fun _ => by exact y_move (.plain rfl)) rfl ?_
      refine dr_g rfl rfl rfl SaysI.out (fun hc _ => by exact y_load (.plain rfl) (by first | exact .here | exact k1 | exact k2 | exact k3 | exact k4 | exact k5 | exact k6 | exact k7 | exact k8 | exact k9 | exact k10 | exact k11 | exact k12 | exact k13) rfl) rfl ?_
      refine dr_g rfl rfl rfl SaysI.out (fun hc _ => by exact y_lss (.opt rfl hc) (.plain rfl)) rfl ?_
      refine dr_g rfl rfl rfl SaysI.out (fun hc _ => by exact y_move (.opt rfl hc)) rfl ?_
      refine dr_g rfl rfl rfl SaysI.out (fun hc _ => by exact y_load (.plain rfl) (by first | exact .here | exact k1 | exact k2 | exact k3 | exact k4 | exact k5 | exact k6 | exact k7 | exact k8 | exact k9 | exact k10 | exact k11 | exact k12 | exact k13) rfl) rfl ?_
      refine dr_g rfl rfl rfl SaysI.out (fun hc _ => by exact y_move (.plain rfl)) rfl ?_
      refine dr_g rfl rfl rfl SaysI.out (fun hc _ => by exact y_indexT (.opt rfl hc) (.opt rfl hc) hvb.1 (by rw [Dg.distL, bl_len]; omega)) rfl ?_
      refine dr_g rfl rfl rfl SaysI.out (fun hc _ => by exact y_loadE (.opt rfl hc) rfl) rfl ?_
      refine dr_g rfl rfl rfl SaysI.out (fun hc _ => by exact y_load (.plain rfl) (by first | exact .here | exact k1 | exact k2 | exact k3 | exact k4 | exact k5 | exact k6 | exact k7 | exact k8 | exact k9 | exact k10 | exact k11 | exact k12 | exact k13) rfl) rfl ?_
      refine dr_g rfl rfl rfl SaysI.out (fun hc _ => by exact y_lss (.opt rfl hc) (.opt rfl hc)) rfl ?_
      first | refine dr_g rfl rfl rfl SaysI.out (fun hc _ => by exact y_or' hc (.opt rfl hc) rfl rfl) rfl ?_ | refine dr_g rfl rfl rfl SaysI.out (fun hc _ => by exact y_or (.opt rfl hc) rfl rfl) rfl ?_
      refine dr_p (fun _ => by exact y_and (.plain rfl) rfl rfl) rfl ?_
      refine dr_nil ?_
      refine awx_cond rfl (fun h1 => ?_) (fun h1 => ?_)
      · skip
        try simp only [decide_eq_true_eq, decide_eq_false_iff_not, Bool.not_eq_true', Bool.not_eq_false', Bool.not_eq_true, Bool.not_eq_false, List.length_map, Int.ofNat_lt, Int.ofNat_le, Bool.or_eq_true, Bool.and_eq_true, Bool.or_eq_false_iff, Bool.and_eq_false_iff] at h1
        have hls' : Dg.lst (Dg.dist g u) ((Dg.suc g u).take (i + 1)) = (Dg.distL g u).getD (Dg.suc g u)[i].toNat default := by
          rw [hdv] at h1 ⊢
          rw [hls, Dg.lsF, if_pos h1]
        refine awx_region rfl ?_
        refine st_p (fun _ => by exact y_load (.plain rfl) (by first | exact .here | exact k1 | exact k2 | exact k3 | exact k4 | exact k5 | exact k6 | exact k7 | exact k8 | exact k9 | exact k10 | exact k11 | exact k12 | exact k13) rfl) rfl ?_
        refine st_p (fun _ => by exact y_move (.plain rfl)) rfl ?_
        refine st_p (fun _ => by exact y_indexT (.plain rfl) (.plain rfl) hvb.1 (by rw [Dg.distL, bl_len]; omega)) rfl ?_
        refine st_p (fun _ => by exact y_loadE (.plain rfl) rfl) rfl ?_
        refine st_s (fun _ => by exact y_storeW (by rfl) rfl (.plain rfl) (.plain rfl) (by first | exact .here | exact u1 | exact u2 | exact u3 | exact u4 | exact u5 | exact u6 | exact u7 | exact u8 | exact u9 | exact u10 | exact u11 | exact u12 | exact u13) (by rfl)) ?_
        refine aops_nil ?_
        refine ⟨true, rfl, fun _ => ?_, fun h => by cases h⟩
        rw [hls']
        all_goals rfl
      · skip
        try simp only [decide_eq_true_eq, decide_eq_false_iff_not, Bool.not_eq_true', Bool.not_eq_false', Bool.not_eq_true, Bool.not_eq_false, List.length_map, Int.ofNat_lt, Int.ofNat_le, Bool.or_eq_true, Bool.and_eq_true, Bool.or_eq_false_iff, Bool.and_eq_false_iff] at h1
        have hls' : Dg.lst (Dg.dist g u) ((Dg.suc g u).take (i + 1)) = Dg.lst (Dg.dist g u) ((Dg.suc g u).take i) := by
          rw [hdv] at h1
          rw [hls, Dg.lsF, if_neg (fun ⟨a, b⟩ => by omega)]
        refine awx_skip ?_
        refine ⟨true, rfl, fun _ => ?_, fun h => by cases h⟩
        rw [hls']
        all_goals rfl
    · kernel_rfl
  rintro v st' ⟨stx, rfl, rfl | hx⟩
  rotate_left
  · cases hx
  refine ⟨.ready, none, _, Take.perm (.there (.there .here)), by simp, ?_⟩
  rw [List.take_length]
  refine awx_seq ?_
  refine awx_seq ?_
  have hlb := Dg.lst_bd (b := 201) (fun j => (Dg.dist_bd hg hu j).2) (by omega) (Dg.suc g u)
  refine awx_region rfl ?_
  refine st_p (fun _ => by exact y_load (.plain rfl) (by first | exact .here | exact k1 | exact k2 | exact k3 | exact k4 | exact k5 | exact k6 | exact k7 | exact k8 | exact k9 | exact k10 | exact k11 | exact k12 | exact k13) rfl) rfl ?_
  refine st_p (fun _ => by exact y_lss (.plain rfl) (.plain rfl)) rfl ?_
  refine aops_nil ?_
  refine awx_cond rfl (fun h2 => ?_) (fun h2 => ?_)
  · skip
    try simp only [decide_eq_true_eq, decide_eq_false_iff_not, Bool.not_eq_true', Bool.not_eq_false', Bool.not_eq_true, Bool.not_eq_false, List.length_map, Int.ofNat_lt, Int.ofNat_le, Bool.or_eq_true, Bool.and_eq_true, Bool.or_eq_false_iff, Bool.and_eq_false_iff] at h2
    refine awx_seq ?_
    refine awx_region rfl ?_
    refine st_p (fun _ => by exact y_assign (.plain rfl)) rfl ?_
    refine aops_nil ?_
    refine awx_ret ?_
    refine retX (.inr rfl) (Takes.perm (by apply Takes.cons (by first | exact .here | exact k1 | exact k2 | exact k3 | exact k4 | exact k5 | exact k6 | exact k7 | exact k8 | exact k9 | exact k10 | exact k11 | exact k12 | exact k13); exact .nil _)) (.cons (.tmp rfl) .nil) (VShift.of1 (Sl.imp (enc := encI)) (.nil _)) ⟨congrArg (fun x : (List (Int)) => (AV.sl 1 (List.map encI x))) (show _ = (Dg.around g u) from ?_), rfl⟩
    rw [Dg.around, if_pos (by assumption)]
  · skip
    try simp only [decide_eq_true_eq, decide_eq_false_iff_not, Bool.not_eq_true', Bool.not_eq_false', Bool.not_eq_true, Bool.not_eq_false, List.length_map, Int.ofNat_lt, Int.ofNat_le, Bool.or_eq_true, Bool.and_eq_true, Bool.or_eq_false_iff, Bool.and_eq_false_iff] at h2
    refine awx_skip ?_
    refine awx_seq ?_
    refine awx_region rfl ?_
    refine st_p (fun _ => by exact y_move (.plain rfl)) rfl ?_
    refine st_p (fun _ => by exact y_buildSlice (.cons (.plain rfl) inferInstance (by rfl) .nil) rfl (le_ rfl)) rfl ?_
    refine st_p (fun _ => by exact y_assign (.plain rfl)) rfl ?_
    refine aops_nil ?_
    refine awx_seq ?_
    obtain ⟨lk, hlk⟩ : ∃ lk : Nat, Dg.lst (Dg.dist g u) (Dg.suc g u) = (lk : Int) := ⟨_, (Int.toNat_of_nonneg (by omega)).symm⟩
    rw [hlk]
    refine awx_anyT (ks := [.free, .free, .new, .new, .write, .write]) [] (.nil _) (by kernel_rfl) rfl (fun K => ?_) ?_
    · skip
      refine dr_p (fun _ => by exact y_move (.plain rfl)) rfl ?_
      refine dr_p (fun _ => by exact y_load (.plain rfl) (by first | exact .here | exact k1 | exact k2 | exact k3 | exact k4 | exact k5 | exact k6 | exact k7 | exact k8 | exact k9 | exact k10 | exact k11 | exact k12 | exact k13) rfl) rfl ?_
      refine dr_new (fun _ _ => by exact y_alloc) rfl fun n9 => ?_
      refine dr_new (fun _ _ => by exact y_alloc) rfl fun n10 => ?_
      refine dr_s (fun _ => by exact y_storeW (by rfl) rfl (.plain rfl) (.plain rfl) (by first | exact .here | exact u1 | exact u2 | exact u3 | exact u4 | exact u5 | exact u6 | exact u7 | exact u8 | exact u9 | exact u10 | exact u11 | exact u12 | exact u13) (by rfl)) ?_
      refine dr_s (fun _ => by exact y_storeW (by rfl) rfl (.plain rfl) (.plain rfl) (by first | exact .here | exact u1 | exact u2 | exact u3 | exact u4 | exact u5 | exact u6 | exact u7 | exact u8 | exact u9 | exact u10 | exact u11 | exact u12 | exact u13) (by rfl)) ?_
      refine dr_nil ?_
      refine awx_block ?_
      refine awx_loop3 (X := Nat × Int × List Int × Option Nat × Nat × Nat) [2, 5] (.cons rfl (.cons rfl .nil)) (fun σ x => ((8, .grow 1 x.2.2.2.1 (x.2.2.1.map encI)) : Nat × AV) :: ((9, .ptr x.2.2.2.2.1 0) : Nat × AV) :: ((10, .ptr x.2.2.2.2.2 0) : Nat × AV) :: σ) (fun R x => .cells n2 (encG g) :: .cells n5 [.sl 1 ((Dg.distL g u).map encI)] :: .cells x.2.2.2.2.1 [.int x.2.1] :: .cells x.2.2.2.2.2 [.int (x.1 : Int)] :: .tail x.2.2.2.1 :: R) (fun x => (0 ≤ x.2.1 ∧ x.2.1 < g.n) ∧ Dg.wlk g (Dg.dist g u) x.1 x.2.1 x.2.2.1 = Dg.around g u ∧ x.2.2.1.length + x.1 ≤ 203) (fun x => x.1) (lk, u, [u], none, n9, n10) (by exact Weak.of2 (by (repeat (first | exact .nil _ | refine .cons rfl (by first | exact AV.Imp.refl _ | exact Sl.imp | exact AV.Imp.agg RowOf.imp | exact AV.Imp.grow_sl | exact AV.Imp.nil_grow | exact AV.Imp.full_grow | exact AV.Imp.own_grow | exact AV.Imp.grow_of rfl | exact AV.Imp.sl_of rfl | exact AV.Imp.int_of (by omega) | exact AV.Imp.of_eq (by first | omega | simpa)) ?_)); done) (by apply ItLe2.cons (by first | exact .here | exact k1 | exact k2 | exact k3 | exact k4 | exact k5 | exact k6 | exact k7 | exact k8 | exact k9 | exact k10 | exact k11 | exact k12 | exact k13); apply ItLe2.cons (by first | exact .here | exact k1 | exact k2 | exact k3 | exact k4 | exact k5 | exact k6 | exact k7 | exact k8 | exact k9 | exact k10 | exact k11 | exact k12 | exact k13); apply ItLe2.cons (by first | exact .here | exact k1 | exact k2 | exact k3 | exact k4 | exact k5 | exact k6 | exact k7 | exact k8 | exact k9 | exact k10 | exact k11 | exact k12 | exact k13); apply ItLe2.cons (by first | exact .here | exact k1 | exact k2 | exact k3 | exact k4 | exact k5 | exact k6 | exact k7 | exact k8 | exact k9 | exact k10 | exact k11 | exact k12 | exact k13); apply ItLe2.tail0; apply ItLe2.cons (by first | exact .here | exact k1 | exact k2 | exact k3 | exact k4 | exact k5 | exact k6 | exact k7 | exact k8 | exact k9 | exact k10 | exact k11 | exact k12 | exact k13); exact .nil _)) ⟨hu, by rw [Dg.around, if_neg (by omega), hlk, Int.toNat_natCast], by simp; omega⟩ ?_
      intro ms1
      rintro ⟨k, now, out, tok, p9, p10⟩ ⟨hnow, hwl, hln⟩
      simp only at hnow hwl hln
      dsimp only
      refine awx_seq ?_
      refine awx_block ?_
      refine awx_seq ?_
      refine awx_seq ?_
      refine awx_region rfl ?_
      refine st_p (fun _ => by exact y_loadW (.plain rfl) (by first | exact .here | exact k1 | exact k2 | exact k3 | exact k4 | exact k5 | exact k6 | exact k7 | exact k8 | exact k9 | exact k10 | exact k11 | exact k12 | exact k13) (by rfl)) rfl ?_
      refine st_p (fun _ => by exact y_load (.plain rfl) (by first | exact .here | exact k1 | exact k2 | exact k3 | exact k4 | exact k5 | exact k6 | exact k7 | exact k8 | exact k9 | exact k10 | exact k11 | exact k12 | exact k13) rfl) rfl ?_
      refine aops_call (blt_lt rfl) (.plain rfl) (.cons (.plain rfl) (.cons (.plain rfl) .nil)) (ACalls.frame (st1 := []) (succ0_c g now) (List.Perm.refl _) ?_)
      rintro v st ⟨si, sj, rfl, rfl⟩
      refine aops_nil ?_
      refine awx_block ?_
      refine awx_rangeFunc rfl fun iL iD T fn D RS hRS => ?_
      refine ACalls.frame (succ_c g hg now hnow si sj (.yld iL _ _ T) (fun i st => st = Aw.Item.raw iL (RS .ready none) :: [.cells n5 [.sl 1 ((Dg.distL g u).map encI)], .cells p9 [.int now], .cells p10 [.int (k : Int)]] ∧ ∀ m (h : m < (Dg.suc g now).length), m < i → Dg.dist g u (Dg.suc g now)[m] ≠ (k : Int)) (fun st => st = Aw.Item.raw iL (RS .done (some (.exit 4))) :: [.cells n5 [.sl 1 ((Dg.distL g u).map encI)], .cells p9 [.int (Dg.nxt (Dg.dist g u) (Dg.suc g now) (k : Int) now)], .cells p10 [.int (k : Int)]]) _ ⟨rfl, fun m h hm => absurd hm (by omega)⟩ ?_) (Takes.perm (by apply Takes.cons (by first | exact .here | exact k1 | exact k2 | exact k3 | exact k4 | exact k5 | exact k6 | exact k7 | exact k8 | exact k9 | exact k10 | exact k11 | exact k12 | exact k13); apply Takes.cons (by first | exact .here | exact k1 | exact k2 | exact k3 | exact k4 | exact k5 | exact k6 | exact k7 | exact k8 | exact k9 | exact k10 | exact k11 | exact k12 | exact k13); apply Takes.cons (by first | exact .here | exact k1 | exact k2 | exact k3 | exact k4 | exact k5 | exact k6 | exact k7 | exact k8 | exact k9 | exact k10 | exact k11 | exact k12 | exact k13); apply Takes.cons (by first | exact .here | exact k1 | exact k2 | exact k3 | exact k4 | exact k5 | exact k6 | exact k7 | exact k8 | exact k9 | exact k10 | exact k11 | exact k12 | exact k13); apply Takes.cons (by first | exact .here | exact k1 | exact k2 | exact k3 | exact k4 | exact k5 | exact k6 | exact k7 | exact k8 | exact k9 | exact k10 | exact k11 | exact k12 | exact k13); apply Takes.cons (by first | exact .here | exact k1 | exact k2 | exact k3 | exact k4 | exact k5 | exact k6 | exact k7 | exact k8 | exact k9 | exact k10 | exact k11 | exact k12 | exact k13); exact .nil _)) ?_
      · skip
        rintro i hi st ⟨rfl, hno⟩
        have hvb := (hg.row now).2 _ (List.getElem_mem hi)
        have hdv := Dg.dist_get (t := u) hvb
        refine AYields.round hRS (by decide) rfl (fun lb => ?_)
        refine awx_region rfl ?_
        refine st_p (fun _ => by exact y_assign (.plain rfl)) rfl ?_
        refine aops_nil ?_
        refine ⟨rfl, ?_⟩
        refine awx_block ?_
        refine awx_seq ?_
        refine awx_anyT (ks := [.free, .free, .free, .free, .free, .free]) [] (.nil _) (by kernel_rfl) rfl (fun K => ?_) ?_
        · skip
          refine dr_p (fun _ => by exact y_load (.plain rfl) (by first | exact .here | exact k1 | exact k2 | exact k3 | exact k4 | exact k5 | exact k6 | exact k7 | exact k8 | exact k9 | exact k10 | exact k11 | exact k12 | exact k13) rfl) rfl ?_
          refine dr_p (fun _ => by exact y_move (.plain rfl)) rfl ?_
          refine dr_p (fun _ => by exact y_indexT (.plain rfl) (.plain rfl) hvb.1 (by rw [Dg.distL, bl_len]; omega)) rfl ?_
          refine dr_p (fun _ => by exact y_loadE (.plain rfl) rfl) rfl ?_
          refine dr_p (fun _ => by exact y_load (.plain rfl) (by first | exact .here | exact k1 | exact k2 | exact k3 | exact k4 | exact k5 | exact k6 | exact k7 | exact k8 | exact k9 | exact k10 | exact k11 | exact k12 | exact k13) rfl) rfl ?_
          refine dr_p (fun _ => by exact y_eql (.plain rfl) (.plain rfl)) rfl ?_
          refine dr_nil ?_
          refine awx_cond rfl (fun h3 => ?_) (fun h3 => ?_)
          · skip
            try simp only [decide_eq_true_eq, decide_eq_false_iff_not, Bool.not_eq_true', Bool.not_eq_false', Bool.not_eq_true, Bool.not_eq_false, List.length_map, Int.ofNat_lt, Int.ofNat_le, Bool.or_eq_true, Bool.and_eq_true, Bool.or_eq_false_iff, Bool.and_eq_false_iff] at h3
            have hdn := hdv.symm.trans h3
            refine awx_seq ?_
            refine awx_region rfl ?_
            refine st_p (fun _ => by exact y_move (.plain rfl)) rfl ?_
            refine st_s (fun _ => by exact y_storeW (by rfl) rfl (.plain rfl) (.plain rfl) (by first | exact .here | exact u1 | exact u2 | exact u3 | exact u4 | exact u5 | exact u6 | exact u7 | exact u8 | exact u9 | exact u10 | exact u11 | exact u12 | exact u13) (by rfl)) ?_
            refine aops_nil ?_
            refine awx_exit ?_
            refine Exists.intro false ?_
            refine ⟨rfl, fun h => (by cases h), fun _ => ?_⟩
            rw [Dg.nxt_at hi hno hdn]
          · skip
            try simp only [decide_eq_true_eq, decide_eq_false_iff_not, Bool.not_eq_true', Bool.not_eq_false', Bool.not_eq_true, Bool.not_eq_false, List.length_map, Int.ofNat_lt, Int.ofNat_le, Bool.or_eq_true, Bool.and_eq_true, Bool.or_eq_false_iff, Bool.and_eq_false_iff] at h3
            have hdn : Dg.dist g u (Dg.suc g now)[i] ≠ (k : Int) := fun e => h3 (hdv.trans e)
            refine awx_skip ?_
            refine ⟨true, rfl, fun _ => ⟨rfl, fun m h hm => ?_⟩, fun h => by cases h⟩
            by_cases e : m = i
            · subst e; exact hdn
            · exact hno m h (by omega)
        · kernel_rfl
      rintro v st' ⟨stx, rfl, hx⟩
      obtain ⟨s, j, hs, hj, rfl⟩ : ∃ s j, s ≠ LoopState.busy ∧ (j = none ∨ j = some (Code.exit 4)) ∧ stx = Aw.Item.raw iL (RS s j) :: [.cells n5 [.sl 1 ((Dg.distL g u).map encI)], .cells p9 [.int (Dg.nxt (Dg.dist g u) (Dg.suc g now) (k : Int) now)], .cells p10 [.int (k : Int)]] := by
        rcases hx with ⟨rfl, hno⟩ | rfl
        · exact ⟨.ready, none, by simp, .inl rfl, by rw [Dg.nxt_no (fun i hi => hno i hi hi)]⟩
        · exact ⟨.done, some (.exit 4), by simp, .inr rfl, rfl⟩
      refine ⟨s, j, _, Take.perm (.there (.there .here)), hs, ?_⟩
      refine afterX_exit hj ?_
      have hnb2 : 0 ≤ (Dg.nxt (Dg.dist g u) (Dg.suc g now) (k : Int) now) ∧ (Dg.nxt (Dg.dist g u) (Dg.suc g now) (k : Int) now) < g.n := by
        rcases Dg.nxt_mem (Dg.dist g u) (Dg.suc g now) (k : Int) now with e | e
        · rw [e]; exact hnow
        · exact (hg.row now).2 _ e
      generalize hnx : (Dg.nxt (Dg.dist g u) (Dg.suc g now) (k : Int) now) = nx at hnb2 ⊢
      refine awx_seq ?_
      refine awx_seq ?_
      refine awx_region rfl ?_
      refine st_p (fun _ => by exact y_load (.plain rfl) (by first | exact .here | exact k1 | exact k2 | exact k3 | exact k4 | exact k5 | exact k6 | exact k7 | exact k8 | exact k9 | exact k10 | exact k11 | exact k12 | exact k13) rfl) rfl ?_
      refine st_p (fun _ => by exact y_eql (.plain rfl) (.plain rfl)) rfl ?_
      refine aops_nil ?_
      refine awx_cond rfl (fun h4 => ?_) (fun h4 => ?_)
      · skip
        try simp only [decide_eq_true_eq, decide_eq_false_iff_not, Bool.not_eq_true', Bool.not_eq_false', Bool.not_eq_true, Bool.not_eq_false, List.length_map, Int.ofNat_lt, Int.ofNat_le, Bool.or_eq_true, Bool.and_eq_true, Bool.or_eq_false_iff, Bool.and_eq_false_iff] at h4
        obtain rfl : k = 0 := by omega
        refine awx_seq ?_
        refine awx_weak (Weak.items2 (st' := markIts (iD :: ms1)) (by apply ItLe2.cons (by first | exact .here | exact k1 | exact k2 | exact k3 | exact k4 | exact k5 | exact k6 | exact k7 | exact k8 | exact k9 | exact k10 | exact k11 | exact k12 | exact k13); exact .sub (.cons _ (.cons _ (.cons _ (.cons _ (.cons _ (.cons _ (.cons _ (.refl _)))))))))) ?_
        refine awx_region rfl ?_
        refine st_p (fun _ => by exact y_move (.plain rfl)) rfl ?_
        refine st_p (fun _ => by exact y_assign (.plain rfl)) rfl ?_
        refine aops_nil ?_
        refine awx_ret ?_
        refine retX (.inr rfl) (List.Perm.of_eq (List.append_nil _).symm) (.cons (.tmp rfl) .nil) (VShift.of1 (Sl.imp (enc := encI)) (.nil _)) ⟨congrArg (fun x : (List (Int)) => (AV.sl 1 (List.map encI x))) (show _ = (Dg.around g u) from ?_), rfl⟩
        rw [← hwl, Dg.wlk]
      · skip
        try simp only [decide_eq_true_eq, decide_eq_false_iff_not, Bool.not_eq_true', Bool.not_eq_false', Bool.not_eq_true, Bool.not_eq_false, List.length_map, Int.ofNat_lt, Int.ofNat_le, Bool.or_eq_true, Bool.and_eq_true, Bool.or_eq_false_iff, Bool.and_eq_false_iff] at h4
        obtain ⟨k, rfl⟩ : ∃ k0, k = k0 + 1 := ⟨k - 1, by omega⟩
        refine awx_skip ?_
        refine awx_region rfl ?_
        refine st_p (fun _ => by exact y_move (.plain rfl)) rfl ?_
        refine st_p (fun _ => by exact y_load (.plain rfl) (by first | exact .here | exact k1 | exact k2 | exact k3 | exact k4 | exact k5 | exact k6 | exact k7 | exact k8 | exact k9 | exact k10 | exact k11 | exact k12 | exact k13) rfl) rfl ?_
        refine st_p (fun _ => by exact y_buildSlice (.cons (.plain rfl) inferInstance (by rfl) .nil) rfl (le_ rfl)) rfl ?_
        first | refine st_append (by rfl) (.plain rfl) (.plain rfl) (by first | (simp; try omega) | omega) rfl fun tA => ?_ | refine st_appendT (by rfl) (.plain rfl) (.plain rfl) (by first | exact .here | exact k1 | exact k2 | exact k3 | exact k4 | exact k5 | exact k6 | exact k7 | exact k8 | exact k9 | exact k10 | exact k11 | exact k12 | exact k13) (by first | (simp; try omega) | omega) rfl fun tA => ?_ | refine st_append0 (by rfl) (.plain rfl) (.plain rfl) (by first | (simp; try omega) | omega) rfl fun tA => ?_ | refine st_append0 (by rfl) (.imp (.plain rfl) AV.Imp.nil_grow) (.plain rfl) (by first | (simp; try omega) | omega) rfl fun tA => ?_ | refine st_append0 (by rfl) (.imp (.plain rfl) AV.Imp.full_grow) (.plain rfl) (by first | (simp; try omega) | omega) rfl fun tA => ?_ | refine st_appendT (by rfl) (.imp (.plain rfl) AV.Imp.own_grow) (.plain rfl) (by first | exact .here | exact k1 | exact k2 | exact k3 | exact k4 | exact k5 | exact k6 | exact k7 | exact k8 | exact k9 | exact k10 | exact k11 | exact k12 | exact k13) (by first | (simp; try omega) | omega) rfl fun tA => ?_
        refine st_p (fun _ => by exact y_assign (.plain rfl)) rfl ?_
        refine aops_nil ?_
        refine awx_seq ?_
        refine awx_seq ?_
        refine awx_region rfl ?_
        refine st_p (fun _ => by exact y_load (.plain rfl) (by first | exact .here | exact k1 | exact k2 | exact k3 | exact k4 | exact k5 | exact k6 | exact k7 | exact k8 | exact k9 | exact k10 | exact k11 | exact k12 | exact k13) rfl) rfl ?_
        refine st_p (fun _ => by exact y_load (.plain rfl) (by first | exact .here | exact k1 | exact k2 | exact k3 | exact k4 | exact k5 | exact k6 | exact k7 | exact k8 | exact k9 | exact k10 | exact k11 | exact k12 | exact k13) rfl) rfl ?_
        refine aops_nil ?_
        refine awx_region rfl ?_
        refine st_n (fun _ => by exact y_alloc) rfl fun q9 => ?_
        refine st_s (fun _ => by exact y_storeW (by rfl) rfl (.plain rfl) (.plain rfl) (by first | exact .here | exact u1 | exact u2 | exact u3 | exact u4 | exact u5 | exact u6 | exact u7 | exact u8 | exact u9 | exact u10 | exact u11 | exact u12 | exact u13) (by rfl)) ?_
        refine st_n (fun _ => by exact y_alloc) rfl fun q10 => ?_
        refine st_s (fun _ => by exact y_storeW (by rfl) rfl (.plain rfl) (.plain rfl) (by first | exact .here | exact u1 | exact u2 | exact u3 | exact u4 | exact u5 | exact u6 | exact u7 | exact u8 | exact u9 | exact u10 | exact u11 | exact u12 | exact u13) (by rfl)) ?_
        refine aops_nil ?_
        refine awx_region rfl ?_
        refine st_p (fun _ => by exact y_load (.plain rfl) (by first | exact .here | exact k1 | exact k2 | exact k3 | exact k4 | exact k5 | exact k6 | exact k7 | exact k8 | exact k9 | exact k10 | exact k11 | exact k12 | exact k13) rfl) rfl ?_
        refine st_p (fun _ => by exact y_sub (.plain rfl) (.plain rfl) (by first | omega | (simp; omega) | (simp at hc; omega) | (simp at hc ⊢; omega) | (simp; done))) rfl ?_
        refine st_s (fun _ => by exact y_storeW (by rfl) rfl (.plain rfl) (.plain rfl) (by first | exact .here | exact u1 | exact u2 | exact u3 | exact u4 | exact u5 | exact u6 | exact u7 | exact u8 | exact u9 | exact u10 | exact u11 | exact u12 | exact u13) (by rfl)) ?_
        refine aops_nil ?_
        refine ⟨(k, nx, out ++ [nx], tA, q9, q10), ⟨hnb2, ?_, ?_⟩, by show k < k + 1; omega, ?_⟩
        · rw [← hwl, Dg.wlk, hnx]
        · simp only [List.length_append, List.length_singleton]; omega
        · dsimp only
          rw [show ((k + 1 : Nat) : Int) - 1 = (k : Int) by omega]
          exact Weak.of2 (by (repeat (first | exact .nil _ | refine .cons rfl (by first | exact AV.Imp.refl _ | exact Sl.imp | exact AV.Imp.agg RowOf.imp | exact AV.Imp.grow_sl | exact AV.Imp.nil_grow | exact AV.Imp.full_grow | exact AV.Imp.own_grow | exact AV.Imp.grow_of rfl | exact AV.Imp.sl_of rfl | exact AV.Imp.int_of (by omega) | exact AV.Imp.of_eq (by first | omega | simpa)) ?_)); done) (by apply ItLe2.cons (by first | exact .here | exact k1 | exact k2 | exact k3 | exact k4 | exact k5 | exact k6 | exact k7 | exact k8 | exact k9 | exact k10 | exact k11 | exact k12 | exact k13); apply ItLe2.cons (by first | exact .here | exact k1 | exact k2 | exact k3 | exact k4 | exact k5 | exact k6 | exact k7 | exact k8 | exact k9 | exact k10 | exact k11 | exact k12 | exact k13); apply ItLe2.cons (by first | exact .here | exact k1 | exact k2 | exact k3 | exact k4 | exact k5 | exact k6 | exact k7 | exact k8 | exact k9 | exact k10 | exact k11 | exact k12 | exact k13); apply ItLe2.cons (by first | exact .here | exact k1 | exact k2 | exact k3 | exact k4 | exact k5 | exact k6 | exact k7 | exact k8 | exact k9 | exact k10 | exact k11 | exact k12 | exact k13); apply ItLe2.cons (by first | exact .here | exact k1 | exact k2 | exact k3 | exact k4 | exact k5 | exact k6 | exact k7 | exact k8 | exact k9 | exact k10 | exact k11 | exact k12 | exact k13); apply ItLe2.cons (by first | exact .here | exact k1 | exact k2 | exact k3 | exact k4 | exact k5 | exact k6 | exact k7 | exact k8 | exact k9 | exact k10 | exact k11 | exact k12 | exact k13); exact .sub (.cons _ (.cons _ (.cons _ (.cons _ (.refl _))))))
    · kernel_rfl

end Go.Proofs
