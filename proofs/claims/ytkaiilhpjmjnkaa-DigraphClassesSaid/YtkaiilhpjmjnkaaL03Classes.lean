/- DigraphClasses answers true for every input, and its arguments read as they did: the given statement DigraphClassesSaid. No condition. -/
import Derived.Test.YtkaiilhpjmjnkaaQ03
import Derived.Test.YtkaiilhpjmjnkaaT03
import Derived.Test.YtkaiilhpjmjnkaaRows
set_option linter.unusedVariables false
set_option linter.unusedSimpArgs false
set_option maxRecDepth 10000
namespace Go.Proofs
open Go.Aw Wl Dg
theorem classesLaw_c (n : Int) (l : List Dg.Ed)  : ACalls Try.prog 5 [(AV.int n), (AV.sl 2 (List.map encE l))] [] (fun v st => v = (AV.bool (true)) ∧ st = []) := by
  refine acalls_body Try.func5 (by kernel_rfl) rfl Try.ntmps5 (le_ rfl) ?_
  rw [Try.results5]
  refine awp_seq ?_
  refine awp_region ?_
  refine st_p (fun _ => by exact y_assign (.plain rfl)) rfl ?_
  refine aops_nil ?_
  refine awp_seq ?_
  refine awp_seq ?_
  refine awp_region ?_
  refine st_p (fun _ => by exact y_move (.plain rfl)) rfl ?_
  refine st_p (fun _ => by exact y_move (.plain rfl)) rfl ?_
  refine aops_call (blt_lt rfl) (.plain rfl) (.cons (.plain rfl) (.cons (.imp (.plain rfl) (Sl.imp (enc := encE))) .nil)) (ACalls.here (great_c _ _) ?_)
  refine st_p (fun _ => by exact y_move (.plain rfl)) rfl ?_
  refine st_g rfl rfl rfl SaysI.out (fun hc _ => by exact y_move (.plain rfl)) rfl ?_
  refine st_g rfl rfl rfl SaysI.out (fun hc _ => by exact y_move (.plain rfl)) rfl ?_
  refine st_g rfl rfl rfl SaysI.out (fun hc _ => by exact y_call (.plain rfl) (.cons (.opt rfl hc) (.cons (.imp (.opt rfl hc) (Sl.imp (enc := encE))) .nil)) (ACalls.pure (chkR_c n l (by simp at hc; omega)))) rfl ?_
  refine st_g rfl rfl rfl SaysI.out (fun hc _ => by exact y_neq (.opt rfl hc) (.plain rfl)) rfl ?_
  refine st_p (fun _ => by exact y_or (.plain rfl) rfl rfl) rfl ?_
  refine aops_nil ?_
  refine awp_cond rfl (fun h1 => ?_) (fun h1 => ?_)
  · skip
    try simp only [decide_eq_true_eq, decide_eq_false_iff_not, Bool.not_eq_true', Bool.not_eq_false', Bool.not_eq_true, Bool.not_eq_false, List.length_map, Int.ofNat_lt, Int.ofNat_le, Bool.or_eq_true, Bool.and_eq_true, Bool.or_eq_false_iff, Bool.and_eq_false_iff] at h1
    refine awp_seq ?_
    refine awp_region ?_
    refine aops_call (blt_lt rfl) (.plain rfl) .nil (ACalls.here (awake_c) ?_)
    refine st_p (fun _ => by exact y_assign (.plain rfl)) rfl ?_
    refine aops_nil ?_
    refine awp_ret ?_
    refine retG (.inr rfl) (.cons (.tmp rfl) .nil) (VShift.of1 (AV.Imp.refl _) (.nil _)) ⟨congrArg (fun x : (Bool) => (AV.bool x)) (show _ = (true) from ?_), rfl⟩
    rfl
  · skip
    try simp only [decide_eq_true_eq, decide_eq_false_iff_not, Bool.not_eq_true', Bool.not_eq_false', Bool.not_eq_true, Bool.not_eq_false, List.length_map, Int.ofNat_lt, Int.ofNat_le, Bool.or_eq_true, Bool.and_eq_true, Bool.or_eq_false_iff, Bool.and_eq_false_iff] at h1
    have hck : Dg.chk n l = 0 := by omega
    have hok := Dg.okE hck
    have hl40 : l.length ≤ 40 := by omega
    have hnb := hok.nb
    have hn12 : n ≤ 12 := by omega
    have hnd := Dg.comps_nodup hck
    have hfl := Dg.comps_flat hck
    obtain ⟨hb1, hb2⟩ := Dg.comps_bd n l
    refine awp_skip ?_
    refine awp_seq ?_
    refine awp_region ?_
    refine st_p (fun _ => by exact y_move (.plain rfl)) rfl ?_
    refine st_n (fun _ => by exact y_makeArr (by rfl) (.plain rfl) (.plain rfl) (Int.toNat_of_nonneg (a := n) (by omega)).symm (by omega)) rfl fun nj => ?_
    refine st_p (fun _ => by exact y_assign (.plain rfl)) rfl ?_
    refine aops_nil ?_
    refine awp_seq ?_
    refine awp_region ?_
    refine st_p (fun _ => by exact y_assign (.plain rfl)) rfl ?_
    refine aops_nil ?_
    refine awp_seq ?_
    refine awp_seq ?_
    refine awp_region ?_
    refine st_p (fun _ => by exact y_move (.plain rfl)) rfl ?_
    refine st_p (fun _ => by exact y_move (.plain rfl)) rfl ?_
    refine aops_call (blt_lt rfl) (.plain rfl) (.cons (.plain rfl) (.cons (.imp (.plain rfl) (Sl.imp (enc := encE))) .nil)) (ACalls.here (comps_c n l (by omega)) ?_)
    first | refine st_p (fun _ => by exact y_lenN (.plain rfl)) rfl ?_ | refine st_p (fun _ => by exact y_len (.plain rfl)) rfl ?_ | refine st_p (fun _ => by exact y_lenArr (.plain rfl)) rfl ?_
    refine st_p (fun _ => by exact y_move (.plain rfl)) rfl ?_
    refine aops_nil ?_
    refine awp_block ?_
    refine awp_loop2 (X := Nat) [0, 1, 5, 29, 30] (.cons rfl (.cons rfl (.cons rfl (.cons rfl (.cons rfl .nil))))) (fun σ x => ((6, .int ((((Dg.comps n l).take x).flatten.length : Nat) : Int)) : Nat × AV) :: ((31, .int (x : Int)) : Nat × AV) :: σ) (fun R x => .cells nj (ea n.toNat (fun j => .int (Dg.clsF ((Dg.comps n l).take x) 0 j))) :: R) (fun x => x ≤ (Dg.comps n l).length) (fun x => (Dg.comps n l).length - x) 0 (by exact Weak.of2 (by (repeat (first | exact .nil _ | refine .cons rfl (by first | exact AV.Imp.refl _ | exact Sl.imp | exact AV.Imp.agg RowOf.imp | exact AV.Imp.grow_sl | exact AV.Imp.nil_grow | exact AV.Imp.full_grow | exact AV.Imp.own_grow | exact AV.Imp.grow_of rfl | exact AV.Imp.sl_of rfl | exact AV.Imp.int_of (by omega) | exact AV.Imp.of_eq (by first | omega | simpa)) ?_)); done) (.cells .here (by rw [ea_make]; exact ImpL.refl _) (.nil _))) (Nat.zero_le _) ?_
    rintro k hk
    refine awp_seq ?_
    refine awp_region ?_
    refine st_p (fun _ => by exact y_lss (.plain rfl) (.plain rfl)) rfl ?_
    refine aops_nil ?_
    refine awp_seq ?_
    refine awp_cond rfl (fun h2 => ?_) (fun h2 => ?_)
    · skip
      try simp only [decide_eq_true_eq, decide_eq_false_iff_not, Bool.not_eq_true', Bool.not_eq_false', Bool.not_eq_true, Bool.not_eq_false, List.length_map, Int.ofNat_lt, Int.ofNat_le, Bool.or_eq_true, Bool.and_eq_true, Bool.or_eq_false_iff, Bool.and_eq_false_iff] at h2
      refine awp_skip ?_
      refine awp_seq ?_
      refine awp_block ?_
      refine awp_seq ?_
      refine awp_region ?_
      refine st_p (fun _ => by exact y_move (.plain rfl)) rfl ?_
      first | refine st_p (fun _ => by exact y_indexMap (.plain rfl) (.plain rfl) rfl (by refine ⟨?_, ?_⟩; (first | omega | (simp; omega) | (simp at hc; omega) | (simp at hc ⊢; omega) | (simp; done)); rfl)) rfl ?_ | refine st_p (fun _ => by exact y_indexT (.plain rfl) (.plain rfl) (by first | omega | (simp; omega) | (simp at hc; omega) | (simp at hc ⊢; omega) | (simp; done)) (by first | omega | (simp; omega) | (simp at hc; omega) | (simp at hc ⊢; omega) | (simp; done))) rfl ?_ | refine st_p (fun _ => by exact y_index (.plain rfl) (.plain rfl) (by omega) rfl) rfl ?_ | refine st_p (fun _ => by exact y_indexArr (.plain rfl) (.plain rfl) rfl (by first | omega | (simp; omega) | (simp at hc; omega) | (simp at hc ⊢; omega) | (simp; done))) rfl ?_
      refine st_p (fun _ => by exact y_loadE (.plain rfl) rfl) rfl ?_
      refine st_p (fun _ => by exact y_assign (.plain rfl)) rfl ?_
      refine st_p (fun _ => by exact y_assign (.plain rfl)) rfl ?_
      refine aops_nil ?_
      refine awp_seq ?_
      refine awp_region ?_
      refine st_p (fun _ => by exact y_move (.plain rfl)) rfl ?_
      first | refine st_p (fun _ => by exact y_lenN (.plain rfl)) rfl ?_ | refine st_p (fun _ => by exact y_len (.plain rfl)) rfl ?_ | refine st_p (fun _ => by exact y_lenArr (.plain rfl)) rfl ?_
      refine st_p (fun _ => by exact y_move (.plain rfl)) rfl ?_
      refine aops_nil ?_
      refine awp_block ?_
      refine awp_loop2 (X := Nat) [0, 1, 5, 7, 29, 30, 31, 36, 37] (.cons rfl (.cons rfl (.cons rfl (.cons rfl (.cons rfl (.cons rfl (.cons rfl (.cons rfl (.cons rfl .nil))))))))) (fun σ x => ((6, .int ((((Dg.comps n l).take k).flatten.length + x : Nat) : Int)) : Nat × AV) :: ((38, .int (x : Int)) : Nat × AV) :: σ) (fun R x => .cells nj (ea n.toNat (fun j => .int (Dg.clsF ((Dg.comps n l).take k ++ [(Dg.comps n l)[k].take x]) 0 j))) :: R) (fun x => x ≤ (Dg.comps n l)[k].length) (fun x => (Dg.comps n l)[k].length - x) 0 (by exact Weak.of2 (by (repeat (first | exact .nil _ | refine .cons rfl (by first | exact AV.Imp.refl _ | exact Sl.imp | exact AV.Imp.agg RowOf.imp | exact AV.Imp.grow_sl | exact AV.Imp.nil_grow | exact AV.Imp.full_grow | exact AV.Imp.own_grow | exact AV.Imp.grow_of rfl | exact AV.Imp.sl_of rfl | exact AV.Imp.int_of (by omega) | exact AV.Imp.of_eq (by first | omega | simpa)) ?_)); done) (.cells .here (ImpL.of_eq (ea_congr fun j _ => congrArg AV.int (Dg.clsF_none _ j))) (.nil _))) (Nat.zero_le _) ?_
      rintro i hi
      have hfk2 : ((Dg.comps n l).take k).flatten.length ≤ n.toNat := by rw [← hfl]; exact Dg.flat_take_le _ _
      have hcl := hb2 _ (List.getElem_mem (by assumption : k < (Dg.comps n l).length))
      refine awp_seq ?_
      refine awp_region ?_
      refine st_p (fun _ => by exact y_lss (.plain rfl) (.plain rfl)) rfl ?_
      refine aops_nil ?_
      refine awp_seq ?_
      refine awp_cond rfl (fun h3 => ?_) (fun h3 => ?_)
      · skip
        try simp only [decide_eq_true_eq, decide_eq_false_iff_not, Bool.not_eq_true', Bool.not_eq_false', Bool.not_eq_true, Bool.not_eq_false, List.length_map, Int.ofNat_lt, Int.ofNat_le, Bool.or_eq_true, Bool.and_eq_true, Bool.or_eq_false_iff, Bool.and_eq_false_iff] at h3
        have hx := Dg.pre_nodup hnd (by assumption : k < (Dg.comps n l).length) (by assumption : i < (Dg.comps n l)[k].length)
        have hxb := (Dg.comps_mem hck).1 (List.mem_flatten.2 ⟨_, List.getElem_mem (by assumption : k < (Dg.comps n l).length), List.getElem_mem (by assumption : i < (Dg.comps n l)[k].length)⟩)
        have hz := Dg.clsF_zero hx.1 hx.2
        refine awp_skip ?_
        refine awp_seq ?_
        refine awp_block ?_
        refine awp_seq ?_
        refine awp_region ?_
        first | refine st_p (fun _ => by exact y_indexMap (.plain rfl) (.plain rfl) rfl (by refine ⟨?_, ?_⟩; (first | omega | (simp; omega) | (simp at hc; omega) | (simp at hc ⊢; omega) | (simp; done)); rfl)) rfl ?_ | refine st_p (fun _ => by exact y_indexT (.plain rfl) (.plain rfl) (by first | omega | (simp; omega) | (simp at hc; omega) | (simp at hc ⊢; omega) | (simp; done)) (by first | omega | (simp; omega) | (simp at hc; omega) | (simp at hc ⊢; omega) | (simp; done))) rfl ?_ | refine st_p (fun _ => by exact y_index (.plain rfl) (.plain rfl) (by omega) rfl) rfl ?_ | refine st_p (fun _ => by exact y_indexArr (.plain rfl) (.plain rfl) rfl (by first | omega | (simp; omega) | (simp at hc; omega) | (simp at hc ⊢; omega) | (simp; done))) rfl ?_
        refine st_p (fun _ => by exact y_loadE (.plain rfl) rfl) rfl ?_
        refine st_p (fun _ => by exact y_assign (.plain rfl)) rfl ?_
        refine aops_nil ?_
        refine awp_seq ?_
        refine awp_seq ?_
        refine awp_region ?_
        refine st_p (fun _ => by exact y_move (.plain rfl)) rfl ?_
        refine st_p (fun _ => by exact y_lss (.plain rfl) (.plain rfl)) rfl ?_
        refine st_p (fun _ => by exact y_move (.plain rfl)) rfl ?_
        refine st_g rfl rfl rfl SaysI.out (fun hc _ => by exact y_move (.plain rfl)) rfl ?_
        refine st_g rfl rfl rfl SaysI.out (fun hc _ => by exact y_move (.plain rfl)) rfl ?_
        refine st_g rfl rfl rfl SaysI.out (fun hc _ => by exact y_geq (.opt rfl hc) (.opt rfl hc)) rfl ?_
        refine st_p (fun _ => by exact y_or (.plain rfl) rfl rfl) rfl ?_
        refine st_p (fun _ => by exact y_move (.plain rfl)) rfl ?_
        refine st_g rfl rfl rfl SaysI.out (fun hc _ => by exact y_move (.plain rfl)) rfl ?_
        refine st_g rfl rfl rfl SaysI.out (fun hc _ => by exact y_move (.plain rfl)) rfl ?_
        refine st_g rfl rfl rfl SaysI.out (fun hc _ => by exact y_indexArr (.opt rfl hc) (.opt rfl hc) (Int.toNat_of_nonneg hxb.1).symm (by omega)) rfl ?_
        refine st_g rfl rfl rfl SaysI.out (fun hc _ => by exact y_load (.opt rfl hc) (by first | exact .here | exact k1 | exact k2 | exact k3 | exact k4 | exact k5 | exact k6 | exact k7 | exact k8 | exact k9 | exact k10 | exact k11 | exact k12 | exact k13) (ea_get _ ⟨hxb.1, by omega⟩)) rfl ?_
        refine st_g rfl rfl rfl SaysI.out (fun hc _ => by exact y_neq (.opt rfl hc) (.plain rfl)) rfl ?_
        refine st_p (fun _ => by exact y_or (.plain rfl) rfl rfl) rfl ?_
        refine aops_nil ?_
        refine awp_cond rfl (fun h4 => ?_) (fun h4 => ?_)
        · skip
          exfalso
          simp [hz] at h4
          omega
        · skip
          try simp only [decide_eq_true_eq, decide_eq_false_iff_not, Bool.not_eq_true', Bool.not_eq_false', Bool.not_eq_true, Bool.not_eq_false, List.length_map, Int.ofNat_lt, Int.ofNat_le, Bool.or_eq_true, Bool.and_eq_true, Bool.or_eq_false_iff, Bool.and_eq_false_iff] at h4
          refine awp_skip ?_
          refine awp_seq ?_
          refine awp_region ?_
          refine st_p (fun _ => by exact y_move (.plain rfl)) rfl ?_
          refine st_p (fun _ => by exact y_move (.plain rfl)) rfl ?_
          refine st_p (fun _ => by exact y_move (.plain rfl)) rfl ?_
          refine st_p (fun _ => by exact y_add (.plain rfl) (.plain rfl) (by first | omega | (simp; omega) | (simp at hc; omega) | (simp at hc ⊢; omega) | (simp; done))) rfl ?_
          refine st_p (fun _ => by exact y_indexArr (.plain rfl) (.plain rfl) (Int.toNat_of_nonneg hxb.1).symm (by omega)) rfl ?_
          refine st_s (fun _ => by exact y_store (by rfl) rfl (.plain rfl) (.plain rfl) (by first | exact .here | exact u1 | exact u2 | exact u3 | exact u4 | exact u5 | exact u6 | exact u7 | exact u8 | exact u9 | exact u10 | exact u11 | exact u12 | exact u13) (by rw [ea_len]; simp; omega)) ?_
          refine aops_nil ?_
          refine awp_region ?_
          refine st_p (fun _ => by exact y_move (.plain rfl)) rfl ?_
          refine st_p (fun _ => by exact y_add (.plain rfl) (.plain rfl) (by first | omega | (simp; omega) | (simp at hc; omega) | (simp at hc ⊢; omega) | (simp; done))) rfl ?_
          refine st_p (fun _ => by exact y_assign (.plain rfl)) rfl ?_
          refine aops_nil ?_
          refine awp_region ?_
          refine st_p (fun _ => by exact y_add (.plain rfl) (.plain rfl) (by first | omega | (simp; omega) | (simp at hc; omega) | (simp at hc ⊢; omega) | (simp; done))) rfl ?_
          refine st_p (fun _ => by exact y_move (.plain rfl)) rfl ?_
          refine aops_nil ?_
          refine ⟨i + 1, by omega, by omega, ?_⟩
          rw [ea_setI (f := Dg.clsF ((Dg.comps n l).take k ++ [(Dg.comps n l)[k].take i]) 0) _ ⟨hxb.1, by omega⟩, show (ea n.toNat (fun j => .int (Dg.upd (Dg.clsF ((Dg.comps n l).take k ++ [(Dg.comps n l)[k].take i]) 0) (Dg.comps n l)[k][i] ((k : Int) + 1) j))) = (ea n.toNat (fun j => .int (Dg.clsF ((Dg.comps n l).take k ++ [(Dg.comps n l)[k].take (i + 1)]) 0 j))) from ea_congr fun j _ => by
            have e := Dg.clsF_step (c := (Dg.comps n l)[k].take i) hx.1 j
            rw [List.length_take, Nat.min_eq_left (by omega)] at e
            rw [e, List.take_add_one, List.getElem?_eq_getElem (by assumption)]; rfl]
          exact Weak.of2 (by (repeat (first | exact .nil _ | refine .cons rfl (by first | exact AV.Imp.refl _ | exact Sl.imp | exact AV.Imp.agg RowOf.imp | exact AV.Imp.grow_sl | exact AV.Imp.nil_grow | exact AV.Imp.full_grow | exact AV.Imp.own_grow | exact AV.Imp.grow_of rfl | exact AV.Imp.sl_of rfl | exact AV.Imp.int_of (by omega) | exact AV.Imp.of_eq (by first | omega | simpa)) ?_)); done) (by (repeat (first | exact .refl _ | exact .nil _ | apply ItLe2.cons (by first | exact .here | exact k1 | exact k2 | exact k3 | exact k4 | exact k5 | exact k6 | exact k7 | exact k8 | exact k9 | exact k10 | exact k11 | exact k12 | exact k13) | apply ItLe2.cells (by first | exact .here | exact k1 | exact k2 | exact k3 | exact k4 | exact k5 | exact k6 | exact k7 | exact k8 | exact k9 | exact k10 | exact k11 | exact k12 | exact k13) (by repeat (first | exact .nil | refine .cons (by first | exact AV.Imp.refl _ | exact Sl.imp | exact AV.Imp.agg RowOf.imp | exact AV.Imp.grow_sl | exact AV.Imp.nil_grow | exact AV.Imp.full_grow | exact AV.Imp.own_grow | exact AV.Imp.grow_of rfl | exact AV.Imp.sl_of rfl | exact AV.Imp.int_of (by omega) | exact AV.Imp.of_eq (by first | omega | simpa)) ?_)) | apply ItLe2.tail0)); done)
      · skip
        try simp only [decide_eq_true_eq, decide_eq_false_iff_not, Bool.not_eq_true', Bool.not_eq_false', Bool.not_eq_true, Bool.not_eq_false, List.length_map, Int.ofNat_lt, Int.ofNat_le, Bool.or_eq_true, Bool.and_eq_true, Bool.or_eq_false_iff, Bool.and_eq_false_iff] at h3
        obtain rfl : i = (Dg.comps n l)[k].length := by omega
        rw [List.take_length, ← Dg.flat_take (by assumption)]
        have hfk : (((Dg.comps n l).take k).flatten.length + (Dg.comps n l)[k].length : Nat) = ((Dg.comps n l).take (k + 1)).flatten.length := by rw [Dg.flat_take (by assumption), List.flatten_append, List.length_append]; simp
        rw [hfk]
        refine awp_exit ?_
        refine awp_region ?_
        refine st_p (fun _ => by exact y_add (.plain rfl) (.plain rfl) (by first | omega | (simp; omega) | (simp at hc; omega) | (simp at hc ⊢; omega) | (simp; done))) rfl ?_
        refine st_p (fun _ => by exact y_move (.plain rfl)) rfl ?_
        refine aops_nil ?_
        refine ⟨k + 1, by omega, by omega, ?_⟩
        exact Weak.of2 (by (repeat (first | exact .nil _ | refine .cons rfl (by first | exact AV.Imp.refl _ | exact Sl.imp | exact AV.Imp.agg RowOf.imp | exact AV.Imp.grow_sl | exact AV.Imp.nil_grow | exact AV.Imp.full_grow | exact AV.Imp.own_grow | exact AV.Imp.grow_of rfl | exact AV.Imp.sl_of rfl | exact AV.Imp.int_of (by omega) | exact AV.Imp.of_eq (by first | omega | simpa)) ?_)); done) (by (repeat (first | exact .refl _ | exact .nil _ | apply ItLe2.cons (by first | exact .here | exact k1 | exact k2 | exact k3 | exact k4 | exact k5 | exact k6 | exact k7 | exact k8 | exact k9 | exact k10 | exact k11 | exact k12 | exact k13) | apply ItLe2.cells (by first | exact .here | exact k1 | exact k2 | exact k3 | exact k4 | exact k5 | exact k6 | exact k7 | exact k8 | exact k9 | exact k10 | exact k11 | exact k12 | exact k13) (by repeat (first | exact .nil | refine .cons (by first | exact AV.Imp.refl _ | exact Sl.imp | exact AV.Imp.agg RowOf.imp | exact AV.Imp.grow_sl | exact AV.Imp.nil_grow | exact AV.Imp.full_grow | exact AV.Imp.own_grow | exact AV.Imp.grow_of rfl | exact AV.Imp.sl_of rfl | exact AV.Imp.int_of (by omega) | exact AV.Imp.of_eq (by first | omega | simpa)) ?_)) | apply ItLe2.tail0)); done)
    · skip
      try simp only [decide_eq_true_eq, decide_eq_false_iff_not, Bool.not_eq_true', Bool.not_eq_false', Bool.not_eq_true, Bool.not_eq_false, List.length_map, Int.ofNat_lt, Int.ofNat_le, Bool.or_eq_true, Bool.and_eq_true, Bool.or_eq_false_iff, Bool.and_eq_false_iff] at h2
      obtain rfl : k = (Dg.comps n l).length := by omega
      rw [List.take_length, hfl]
      refine awp_exit ?_
      refine awp_seq ?_
      refine awp_seq ?_
      refine awp_region ?_
      refine st_p (fun _ => by exact y_move (.plain rfl)) rfl ?_
      refine st_p (fun _ => by exact y_move (.plain rfl)) rfl ?_
      refine aops_nil ?_
      refine awp_block ?_
      refine awp_loop2 (X := Nat) [0, 1, 5, 6, 65] (.cons rfl (.cons rfl (.cons rfl (.cons rfl (.cons rfl .nil))))) (fun σ x => ((66, .int (x : Int)) : Nat × AV) :: σ) (fun R x => .cells nj (ea n.toNat (fun j => .int (Dg.clsF ((Dg.comps n l)) 0 j))) :: R) (fun x => x ≤ n.toNat) (fun x => n.toNat - x) 0 (by exact Weak.of2 (by (repeat (first | exact .nil _ | refine .cons rfl (by first | exact AV.Imp.refl _ | exact Sl.imp | exact AV.Imp.agg RowOf.imp | exact AV.Imp.grow_sl | exact AV.Imp.nil_grow | exact AV.Imp.full_grow | exact AV.Imp.own_grow | exact AV.Imp.grow_of rfl | exact AV.Imp.sl_of rfl | exact AV.Imp.int_of (by omega) | exact AV.Imp.of_eq (by first | omega | simpa)) ?_)); done) (by (repeat (first | exact .refl _ | exact .nil _ | apply ItLe2.cons (by first | exact .here | exact k1 | exact k2 | exact k3 | exact k4 | exact k5 | exact k6 | exact k7 | exact k8 | exact k9 | exact k10 | exact k11 | exact k12 | exact k13) | apply ItLe2.cells (by first | exact .here | exact k1 | exact k2 | exact k3 | exact k4 | exact k5 | exact k6 | exact k7 | exact k8 | exact k9 | exact k10 | exact k11 | exact k12 | exact k13) (by repeat (first | exact .nil | refine .cons (by first | exact AV.Imp.refl _ | exact Sl.imp | exact AV.Imp.agg RowOf.imp | exact AV.Imp.grow_sl | exact AV.Imp.nil_grow | exact AV.Imp.full_grow | exact AV.Imp.own_grow | exact AV.Imp.grow_of rfl | exact AV.Imp.sl_of rfl | exact AV.Imp.int_of (by omega) | exact AV.Imp.of_eq (by first | omega | simpa)) ?_)) | apply ItLe2.tail0)); done)) (Nat.zero_le _) ?_
      rintro a ha
      refine awp_seq ?_
      refine awp_region ?_
      refine st_p (fun _ => by exact y_lss (.plain rfl) (.plain rfl)) rfl ?_
      refine aops_nil ?_
      refine awp_seq ?_
      refine awp_cond rfl (fun h5 => ?_) (fun h5 => ?_)
      · skip
        try simp only [decide_eq_true_eq, decide_eq_false_iff_not, Bool.not_eq_true', Bool.not_eq_false', Bool.not_eq_true, Bool.not_eq_false, List.length_map, Int.ofNat_lt, Int.ofNat_le, Bool.or_eq_true, Bool.and_eq_true, Bool.or_eq_false_iff, Bool.and_eq_false_iff] at h5
        refine awp_skip ?_
        refine awp_seq ?_
        refine awp_block ?_
        refine awp_seq ?_
        refine awp_region ?_
        refine st_p (fun _ => by exact y_move (.plain rfl)) rfl ?_
        refine st_p (fun _ => by exact y_assign (.plain rfl)) rfl ?_
        refine aops_nil ?_
        refine awp_seq ?_
        refine awp_region ?_
        refine st_p (fun _ => by exact y_move (.plain rfl)) rfl ?_
        refine st_p (fun _ => by exact y_move (.plain rfl)) rfl ?_
        refine st_p (fun _ => by exact y_move (.plain rfl)) rfl ?_
        refine aops_call (blt_lt rfl) (.plain rfl) (.cons (.plain rfl) (.cons (.imp (.plain rfl) (Sl.imp (enc := encE))) (.cons (.plain rfl) .nil))) (ACalls.here (Reach_c n l _ (by omega)) ?_)
        refine st_p (fun _ => by exact y_assign (.plain rfl)) rfl ?_
        refine aops_nil ?_
        refine awp_seq ?_
        refine awp_region ?_
        refine st_p (fun _ => by exact y_move (.plain rfl)) rfl ?_
        refine st_p (fun _ => by exact y_move (.plain rfl)) rfl ?_
        refine aops_nil ?_
        refine awp_block ?_
        refine awp_loop2 (X := Nat) [0, 1, 5, 6, 11, 12, 65, 66, 73] (.cons rfl (.cons rfl (.cons rfl (.cons rfl (.cons rfl (.cons rfl (.cons rfl (.cons rfl (.cons rfl .nil))))))))) (fun σ x => ((74, .int (x : Int)) : Nat × AV) :: σ) (fun R x => .cells nj (ea n.toNat (fun j => .int (Dg.clsF ((Dg.comps n l)) 0 j))) :: R) (fun x => x ≤ n.toNat) (fun x => n.toNat - x) 0 (by exact Weak.of2 (by (repeat (first | exact .nil _ | refine .cons rfl (by first | exact AV.Imp.refl _ | exact Sl.imp | exact AV.Imp.agg RowOf.imp | exact AV.Imp.grow_sl | exact AV.Imp.nil_grow | exact AV.Imp.full_grow | exact AV.Imp.own_grow | exact AV.Imp.grow_of rfl | exact AV.Imp.sl_of rfl | exact AV.Imp.int_of (by omega) | exact AV.Imp.of_eq (by first | omega | simpa)) ?_)); done) (by (repeat (first | exact .refl _ | exact .nil _ | apply ItLe2.cons (by first | exact .here | exact k1 | exact k2 | exact k3 | exact k4 | exact k5 | exact k6 | exact k7 | exact k8 | exact k9 | exact k10 | exact k11 | exact k12 | exact k13) | apply ItLe2.cells (by first | exact .here | exact k1 | exact k2 | exact k3 | exact k4 | exact k5 | exact k6 | exact k7 | exact k8 | exact k9 | exact k10 | exact k11 | exact k12 | exact k13) (by repeat (first | exact .nil | refine .cons (by first | exact AV.Imp.refl _ | exact Sl.imp | exact AV.Imp.agg RowOf.imp | exact AV.Imp.grow_sl | exact AV.Imp.nil_grow | exact AV.Imp.full_grow | exact AV.Imp.own_grow | exact AV.Imp.grow_of rfl | exact AV.Imp.sl_of rfl | exact AV.Imp.int_of (by omega) | exact AV.Imp.of_eq (by first | omega | simpa)) ?_)) | apply ItLe2.tail0)); done)) (Nat.zero_le _) ?_
        rintro b hb
        refine awp_seq ?_
        refine awp_region ?_
        refine st_p (fun _ => by exact y_lss (.plain rfl) (.plain rfl)) rfl ?_
        refine aops_nil ?_
        refine awp_seq ?_
        refine awp_cond rfl (fun h6 => ?_) (fun h6 => ?_)
        · skip
          try simp only [decide_eq_true_eq, decide_eq_false_iff_not, Bool.not_eq_true', Bool.not_eq_false', Bool.not_eq_true, Bool.not_eq_false, List.length_map, Int.ofNat_lt, Int.ofNat_le, Bool.or_eq_true, Bool.and_eq_true, Bool.or_eq_false_iff, Bool.and_eq_false_iff] at h6
          refine awp_skip ?_
          refine awp_seq ?_
          refine awp_block ?_
          refine awp_seq ?_
          refine awp_region ?_
          refine st_p (fun _ => by exact y_move (.plain rfl)) rfl ?_
          refine st_p (fun _ => by exact y_assign (.plain rfl)) rfl ?_
          refine aops_nil ?_
          refine awp_seq ?_
          refine awp_region ?_
          refine st_p (fun _ => by exact y_move (.plain rfl)) rfl ?_
          refine st_p (fun _ => by exact y_move (.plain rfl)) rfl ?_
          refine aops_call (blt_lt rfl) (.plain rfl) (.cons (.imp (.plain rfl) (Sl.imp (enc := encI))) (.cons (.plain rfl) .nil)) (ACalls.here (containsI_c _ _ (by have := Dg.reach_bd n l (a : Int); have := Dg.reach_bd n l (b : Int); omega)) ?_)
          refine st_p (fun _ => by exact y_move (.plain rfl)) rfl ?_
          refine st_g rfl rfl rfl SaysI.out (fun hc _ => by exact y_move (.plain rfl)) rfl ?_
          refine st_g rfl rfl rfl SaysI.out (fun hc _ => by exact y_move (.plain rfl)) rfl ?_
          refine st_g rfl rfl rfl SaysI.out (fun hc _ => by exact y_move (.plain rfl)) rfl ?_
          refine st_g rfl rfl rfl SaysI.out (fun hc _ => by exact y_call (.plain rfl) (.cons (.opt rfl hc) (.cons (.imp (.opt rfl hc) (Sl.imp (enc := encE))) (.cons (.opt rfl hc) .nil))) (ACalls.pure (Reach_c n l _ (by omega)))) rfl ?_
          refine st_g rfl rfl rfl SaysI.out (fun hc _ => by exact y_move (.plain rfl)) rfl ?_
          refine st_g rfl rfl rfl SaysI.out (fun hc _ => by exact y_call (.plain rfl) (.cons (.imp (.opt rfl hc) (Sl.imp (enc := encI))) (.cons (.opt rfl hc) .nil)) (ACalls.pure (containsI_c _ _ (by have := Dg.reach_bd n l (a : Int); have := Dg.reach_bd n l (b : Int); omega)))) rfl ?_
          refine st_p (fun _ => by exact y_and (.plain rfl) rfl rfl) rfl ?_
          refine st_p (fun _ => by exact y_assign (.plain rfl)) rfl ?_
          refine aops_nil ?_
          refine awp_seq ?_
          refine awp_any0 (ks := [.free, .free, .free, .free, .free, .free, .free, .free, .free, .free, .free]) (by kernel_rfl) (fun K => ?_) ?_
          · skip
            refine dr_p (fun _ => by exact y_move (.plain rfl)) rfl ?_
            refine dr_p (fun _ => by exact y_move (.plain rfl)) rfl ?_
            refine dr_p (fun _ => by exact y_move (.plain rfl)) rfl ?_
            refine dr_p (fun _ => by exact y_indexArr (.plain rfl) (.plain rfl) rfl (by omega)) rfl ?_
            refine dr_p (fun _ => by exact y_load (.plain rfl) (by first | exact .here | exact k1 | exact k2 | exact k3 | exact k4 | exact k5 | exact k6 | exact k7 | exact k8 | exact k9 | exact k10 | exact k11 | exact k12 | exact k13) (ea_getN (m := n.toNat) (t := a) _ (by omega))) rfl ?_
            refine dr_p (fun _ => by exact y_move (.plain rfl)) rfl ?_
            refine dr_p (fun _ => by exact y_move (.plain rfl)) rfl ?_
            refine dr_p (fun _ => by exact y_indexArr (.plain rfl) (.plain rfl) rfl (by omega)) rfl ?_
            refine dr_p (fun _ => by exact y_load (.plain rfl) (by first | exact .here | exact k1 | exact k2 | exact k3 | exact k4 | exact k5 | exact k6 | exact k7 | exact k8 | exact k9 | exact k10 | exact k11 | exact k12 | exact k13) (ea_getN (m := n.toNat) (t := b) _ (by omega))) rfl ?_
            refine dr_p (fun _ => by exact y_eql (.plain rfl) (.plain rfl)) rfl ?_
            refine dr_p (fun _ => by exact y_neBool (by rfl) (.plain rfl) (.plain rfl)) rfl ?_
            refine dr_nil ⟨rfl, ?_⟩
            refine awp_cond rfl (fun h7 => ?_) (fun h7 => ?_)
            · skip
              exfalso
              have hbo := Dg.both_eq hck (a := (a : Int)) (b := (b : Int)) ⟨by omega, by omega⟩ ⟨by omega, by omega⟩
              rw [hbo] at h7
              simp at h7
            · skip
              try simp only [decide_eq_true_eq, decide_eq_false_iff_not, Bool.not_eq_true', Bool.not_eq_false', Bool.not_eq_true, Bool.not_eq_false, List.length_map, Int.ofNat_lt, Int.ofNat_le, Bool.or_eq_true, Bool.and_eq_true, Bool.or_eq_false_iff, Bool.and_eq_false_iff] at h7
              refine awp_skip ?_
              refine awp_region ?_
              refine st_p (fun _ => by exact y_add (.plain rfl) (.plain rfl) (by first | omega | (simp; omega) | (simp at hc; omega) | (simp at hc ⊢; omega) | (simp; done))) rfl ?_
              refine st_p (fun _ => by exact y_move (.plain rfl)) rfl ?_
              refine aops_nil ?_
              refine ⟨b + 1, by omega, by omega, ?_⟩
              exact Weak.of2 (by (repeat (first | exact .nil _ | refine .cons rfl (by first | exact AV.Imp.refl _ | exact Sl.imp | exact AV.Imp.agg RowOf.imp | exact AV.Imp.grow_sl | exact AV.Imp.nil_grow | exact AV.Imp.full_grow | exact AV.Imp.own_grow | exact AV.Imp.grow_of rfl | exact AV.Imp.sl_of rfl | exact AV.Imp.int_of (by omega) | exact AV.Imp.of_eq (by first | omega | simpa)) ?_)); done) (by (repeat (first | exact .refl _ | exact .nil _ | apply ItLe2.cons (by first | exact .here | exact k1 | exact k2 | exact k3 | exact k4 | exact k5 | exact k6 | exact k7 | exact k8 | exact k9 | exact k10 | exact k11 | exact k12 | exact k13) | apply ItLe2.cells (by first | exact .here | exact k1 | exact k2 | exact k3 | exact k4 | exact k5 | exact k6 | exact k7 | exact k8 | exact k9 | exact k10 | exact k11 | exact k12 | exact k13) (by repeat (first | exact .nil | refine .cons (by first | exact AV.Imp.refl _ | exact Sl.imp | exact AV.Imp.agg RowOf.imp | exact AV.Imp.grow_sl | exact AV.Imp.nil_grow | exact AV.Imp.full_grow | exact AV.Imp.own_grow | exact AV.Imp.grow_of rfl | exact AV.Imp.sl_of rfl | exact AV.Imp.int_of (by omega) | exact AV.Imp.of_eq (by first | omega | simpa)) ?_)) | apply ItLe2.tail0)); done)
          · kernel_rfl
        · skip
          try simp only [decide_eq_true_eq, decide_eq_false_iff_not, Bool.not_eq_true', Bool.not_eq_false', Bool.not_eq_true, Bool.not_eq_false, List.length_map, Int.ofNat_lt, Int.ofNat_le, Bool.or_eq_true, Bool.and_eq_true, Bool.or_eq_false_iff, Bool.and_eq_false_iff] at h6
          refine awp_exit ?_
          refine awp_region ?_
          refine st_p (fun _ => by exact y_add (.plain rfl) (.plain rfl) (by first | omega | (simp; omega) | (simp at hc; omega) | (simp at hc ⊢; omega) | (simp; done))) rfl ?_
          refine st_p (fun _ => by exact y_move (.plain rfl)) rfl ?_
          refine aops_nil ?_
          refine ⟨a + 1, by omega, by omega, ?_⟩
          exact Weak.of2 (by (repeat (first | exact .nil _ | refine .cons rfl (by first | exact AV.Imp.refl _ | exact Sl.imp | exact AV.Imp.agg RowOf.imp | exact AV.Imp.grow_sl | exact AV.Imp.nil_grow | exact AV.Imp.full_grow | exact AV.Imp.own_grow | exact AV.Imp.grow_of rfl | exact AV.Imp.sl_of rfl | exact AV.Imp.int_of (by omega) | exact AV.Imp.of_eq (by first | omega | simpa)) ?_)); done) (by (repeat (first | exact .refl _ | exact .nil _ | apply ItLe2.cons (by first | exact .here | exact k1 | exact k2 | exact k3 | exact k4 | exact k5 | exact k6 | exact k7 | exact k8 | exact k9 | exact k10 | exact k11 | exact k12 | exact k13) | apply ItLe2.cells (by first | exact .here | exact k1 | exact k2 | exact k3 | exact k4 | exact k5 | exact k6 | exact k7 | exact k8 | exact k9 | exact k10 | exact k11 | exact k12 | exact k13) (by repeat (first | exact .nil | refine .cons (by first | exact AV.Imp.refl _ | exact Sl.imp | exact AV.Imp.agg RowOf.imp | exact AV.Imp.grow_sl | exact AV.Imp.nil_grow | exact AV.Imp.full_grow | exact AV.Imp.own_grow | exact AV.Imp.grow_of rfl | exact AV.Imp.sl_of rfl | exact AV.Imp.int_of (by omega) | exact AV.Imp.of_eq (by first | omega | simpa)) ?_)) | apply ItLe2.tail0)); done)
      · skip
        try simp only [decide_eq_true_eq, decide_eq_false_iff_not, Bool.not_eq_true', Bool.not_eq_false', Bool.not_eq_true, Bool.not_eq_false, List.length_map, Int.ofNat_lt, Int.ofNat_le, Bool.or_eq_true, Bool.and_eq_true, Bool.or_eq_false_iff, Bool.and_eq_false_iff] at h5
        refine awp_exit ?_
        refine awp_seq ?_
        refine awp_region ?_
        refine st_p (fun _ => by exact y_move (.plain rfl)) rfl ?_
        refine st_p (fun _ => by exact y_move (.plain rfl)) rfl ?_
        refine st_p (fun _ => by exact y_eql (.plain rfl) (.plain rfl)) rfl ?_
        refine st_p (fun _ => by exact y_move (.plain rfl)) rfl ?_
        refine st_g rfl rfl rfl SaysI.out (fun hc _ => by exact y_call (.plain rfl) .nil (ACalls.pure (awake_c))) rfl ?_
        refine st_p (fun _ => by exact y_and (.plain rfl) rfl rfl) rfl ?_
        refine st_p (fun _ => by exact y_assign (.plain rfl)) rfl ?_
        refine aops_nil ?_
        refine awp_ret ?_
        refine retG (.inr rfl) (.cons (.tmp rfl) .nil) (VShift.of1 (AV.Imp.refl _) (.nil _)) ⟨congrArg (fun x : (Bool) => (AV.bool x)) (show _ = (true) from ?_), rfl⟩
        simp
        omega

set_option maxRecDepth 100000 in
theorem digraphClasses_lifted (os : Os) (started : os.Started) (H : Type) (enc : TypeId × Value → H) :
    ReturnsInHanded {} Try.checked os 5 .any (Ytkaiilhpjmjnkaa.Rows.digraphClassesSpec.pre6 enc Try.prog Try.f5 Ytkaiilhpjmjnkaa.Rows.digraphClassesRow.domain false) (Ytkaiilhpjmjnkaa.Rows.digraphClassesSpec.post enc Try.prog Try.f5 false true false false) := by
  refine returnsInHanded_of_change (C := Try.checked) (s := Ytkaiilhpjmjnkaa.Rows.digraphClassesSpec) ownK started (by kernel_rfl) Try.func5
    (ChangeSpec.witness6 (C := Try.checked) (s := Ytkaiilhpjmjnkaa.Rows.digraphClassesSpec) false ⟨#[], #[.int .i64 0, .slice none 0 0], []⟩ 8 (by kernel_rfl) (by kernel_rfl) (by kernel_rfl) (by kernel_rfl) (by kernel_rfl)) ?_
  intro W base args ds gs before hval hW _ _
  refine law_row (TB := 4) (by rw [Try.params5]) ((.scalar rdI (by kernel_rfl) (.scalar rdE (by kernel_rfl) .nil))) (fun a h => classesLaw_c a.1 a.2.1) laidK (by kernel_rfl) rfl Try.underlying4 rfl (fun ds' h => ?_) hval hW
  rw [Try.params5] at h
  match ds', h with
  | [d0, d1], _ => rfl
namespace Ytkaiilhpjmjnkaa
theorem digraphClasses_holds : Rows.DigraphClassesSaid :=
  OpenClaim.holds_of_wide 5 Try.f5 rfl rfl rfl rfl rfl rfl rfl ⟨rfl, rfl, rfl, rfl, rfl⟩ rfl rfl rfl rfl rfl (by kernel_rfl) Try.func5 (by kernel_rfl)
    (of_decide_eq_true (by kernel_rfl)) (by unfold Func.isWrapper; first | (rw [if_pos (by decide +kernel)]; kernel_rfl) | (rw [if_neg (by decide +kernel)]; exact ⟨rfl, rfl⟩))
    (fun os started H enc _ => digraphClasses_lifted os started H enc)
end Ytkaiilhpjmjnkaa

end Go.Proofs
