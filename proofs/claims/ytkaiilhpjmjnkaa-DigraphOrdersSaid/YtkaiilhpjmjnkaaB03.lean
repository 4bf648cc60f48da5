/- The graph; its successors. -/
import Derived.Test.YtkaiilhpjmjnkaaC03
set_option linter.unusedVariables false
set_option linter.unusedSimpArgs false
set_option maxRecDepth 10000
namespace Go.Proofs
open Go.Aw Wl Dg
theorem build_c (n : Int) (l : List Dg.Ed) (hl : l.length ≤ 1000000) : ACalls Try.prog 40 [(AV.int n), (AV.sl 2 (List.map encE l))] [] (fun v st => v = (AV.tup [(AV.agg (encG (((Dg.bd n l, Dg.bdB n l)).1))), (AV.bool (((Dg.bd n l, Dg.bdB n l)).2))]) ∧ st = []) := by
  refine acalls_body Try.func40 (by kernel_rfl) rfl Try.ntmps40 (le_ rfl) ?_
  rw [Try.results40]
  refine awp_seq ?_
  refine awp_region ?_
  refine st_n (fun _ => by exact y_alloc) rfl fun n4 => ?_
  refine st_p (fun _ => by exact y_assign (.plain rfl)) rfl ?_
  refine aops_nil ?_
  refine awp_seq ?_
  refine awp_seq ?_
  refine awp_region ?_
  refine st_p (fun _ => by exact y_move (.plain rfl)) rfl ?_
  refine st_p (fun _ => by exact y_move (.plain rfl)) rfl ?_
  refine aops_call (blt_lt rfl) (.plain rfl) (.cons (.plain rfl) (.cons (.imp (.plain rfl) (Sl.imp (enc := encE))) .nil)) (ACalls.here (chk_c _ _ (by first | assumption | omega | (simp; omega) | (simp; done) | decide +kernel | (simp_all; omega))) ?_)
  refine st_p (fun _ => by exact y_neq (.plain rfl) (.plain rfl)) rfl ?_
  refine aops_nil ?_
  refine awp_cond rfl (fun h1 => ?_) (fun h1 => ?_)
  · skip
    try simp only [decide_eq_true_eq, decide_eq_false_iff_not, Bool.not_eq_true', Bool.not_eq_false', Bool.not_eq_true, Bool.not_eq_false, List.length_map, Int.ofNat_lt, Int.ofNat_le, Bool.or_eq_true, Bool.and_eq_true, Bool.or_eq_false_iff, Bool.and_eq_false_iff] at h1
    refine awp_seq ?_
    refine awp_region ?_
    refine st_p (fun _ => by exact y_build (out := [_, _]) .nil rfl rfl) rfl ?_
    refine st_s (fun _ => by exact y_storeW (by rfl) rfl (.plain rfl) (.plain rfl) (by first | exact .here | exact u1 | exact u2 | exact u3 | exact u4 | exact u5 | exact u6 | exact u7 | exact u8 | exact u9 | exact u10 | exact u11 | exact u12 | exact u13) (by rfl)) ?_
    refine st_p (fun _ => by exact y_assign (.plain rfl)) rfl ?_
    refine aops_nil ?_
    refine awp_ret ?_
    refine retG (.inr rfl) (.cons (res_cellW rfl (by first | exact .here | exact k1 | exact k2 | exact k3 | exact k4 | exact k5 | exact k6 | exact k7 | exact k8 | exact k9 | exact k10 | exact k11 | exact k12 | exact k13) (by rfl)) (.cons (.tmp rfl) .nil)) (VShift.of2 (AV.Imp.tup (.cons (AV.Imp.agg (RowOf.imp (enc := encG))) (.cons (AV.Imp.refl _) .nil))) (.nil _)) ⟨congrArg (fun x : (Dg.Gr) × (Bool) => (AV.tup [(AV.agg (encG x.1)), (AV.bool x.2)])) (show (_, _) = ((Dg.bd n l, Dg.bdB n l)) from ?_), rfl⟩
    rw [Dg.bd, Dg.bdB, if_neg (by omega), decide_eq_false (by omega)]
    all_goals rfl
  · skip
    try simp only [decide_eq_true_eq, decide_eq_false_iff_not, Bool.not_eq_true', Bool.not_eq_false', Bool.not_eq_true, Bool.not_eq_false, List.length_map, Int.ofNat_lt, Int.ofNat_le, Bool.or_eq_true, Bool.and_eq_true, Bool.or_eq_false_iff, Bool.and_eq_false_iff] at h1
    have hck : Dg.chk n l = 0 := by omega
    have hok := Dg.okE hck
    have hnb := hok.nb
    have hlen := hok.len
    refine awp_skip ?_
    refine awp_seq ?_
    refine awp_region ?_
    refine st_p (fun _ => by exact y_move (.plain rfl)) rfl ?_
    refine st_p (fun _ => by exact y_move (.plain rfl)) rfl ?_
    refine st_n (fun _ => by exact y_makeArr (by rfl) (.plain rfl) (.plain rfl) (Int.toNat_of_nonneg (a := n) (by omega)).symm (by omega)) rfl fun nj => ?_
    refine st_p (fun _ => by exact y_build (out := [_, _]) (.cons (.plain rfl) inferInstance rfl (.cons (.plain rfl) inferInstance rfl .nil)) rfl rfl) rfl ?_
    refine st_n (fun _ => by exact y_alloc) rfl fun n6 => ?_
    refine st_s (fun _ => by exact y_storeW (by rfl) rfl (.plain rfl) (.plain rfl) (by first | exact .here | exact u1 | exact u2 | exact u3 | exact u4 | exact u5 | exact u6 | exact u7 | exact u8 | exact u9 | exact u10 | exact u11 | exact u12 | exact u13) (by rfl)) ?_
    refine aops_nil ?_
    refine awp_seq ?_
    refine awp_seq ?_
    refine awp_region ?_
    refine st_p (fun _ => by exact y_move (.plain rfl)) rfl ?_
    first | refine st_p (fun _ => by exact y_lenN (.plain rfl)) rfl ?_ | refine st_p (fun _ => by exact y_len (.plain rfl)) rfl ?_ | refine st_p (fun _ => by exact y_lenArr (.plain rfl)) rfl ?_
    refine st_p (fun _ => by exact y_move (.plain rfl)) rfl ?_
    refine aops_nil ?_
    refine awp_block ?_
    refine awp_loop2 (X := Nat × (Int → Option Nat)) (rest := []) [4, 6, 18, 19] (.cons rfl (.cons rfl (.cons rfl (.cons rfl .nil)))) (fun σ x => ((20, .int (x.1 : Int)) : Nat × AV) :: σ) (fun R x => .cells n6 [.int n, .arr nj 0 n.toNat] :: .cells nj (ea n.toNat fun u => .grow 1 (x.2 u) ((Dg.sc (l.take x.1) u).map encI)) :: .cells n4 [.int 0, .val (.slice none 0 0)] :: tails n.toNat x.2) (fun x => x.1 ≤ l.length) (fun x => l.length - x.1) (0, fun _ => none) (by exact Weak.trans (tails_none n.toNat _) (Weak.trans (Weak.perm (st' := .cells n6 _ :: .cells nj _ :: .cells n4 _ :: tails n.toNat (fun _ => none)) (List.perm_append_comm (l₁ := tails n.toNat (fun _ => none)) (l₂ := [Item.cells n6 _, Item.cells nj _, Item.cells n4 _]))) (Weak.of2 (by (repeat (first | exact .nil _ | refine .cons rfl (by first | exact AV.Imp.refl _ | exact Sl.imp | exact AV.Imp.agg RowOf.imp | exact AV.Imp.grow_sl | exact AV.Imp.nil_grow | exact AV.Imp.full_grow | exact AV.Imp.own_grow | exact AV.Imp.grow_of rfl | exact AV.Imp.sl_of rfl | exact AV.Imp.int_of (by omega) | exact AV.Imp.of_eq (by first | omega | simpa)) ?_)); done) (.cells .here (ImpL.refl _) (.cells .here (by rw [ea_make]; exact ea_imp fun j _ => AV.Imp.nil_grow) (.refl _)))))) (Nat.zero_le _) ?_
    rintro ⟨k, T⟩ hk
    simp only at hk
    dsimp only
    refine awp_seq ?_
    refine awp_region ?_
    refine st_p (fun _ => by exact y_lss (.plain rfl) (.plain rfl)) rfl ?_
    refine aops_nil ?_
    refine awp_seq ?_
    refine awp_cond rfl (fun h2 => ?_) (fun h2 => ?_)
    · skip
      try simp only [decide_eq_true_eq, decide_eq_false_iff_not, Bool.not_eq_true', Bool.not_eq_false', Bool.not_eq_true, Bool.not_eq_false, List.length_map, Int.ofNat_lt, Int.ofNat_le, Bool.or_eq_true, Bool.and_eq_true, Bool.or_eq_false_iff, Bool.and_eq_false_iff] at h2
      refine awp_skip ?_
      refine awp_seq ?_
      refine awp_block ?_
      refine awp_seq ?_
      have hub := hok.u _ (List.getElem_mem h2)
      have hut : l[k].u.toNat < n.toNat := by omega
      have hsl := Dg.sc_len (l.take k) l[k].u
      rw [List.length_take] at hsl
      refine awp_region ?_
      first | refine st_p (fun _ => by exact y_indexMap (.plain rfl) (.plain rfl) rfl (by refine ⟨?_, ?_⟩; (first | omega | (simp; omega) | (simp at hc; omega) | (simp at hc ⊢; omega) | (simp; done)); rfl)) rfl ?_ | refine st_p (fun _ => by exact y_indexT (.plain rfl) (.plain rfl) (by first | omega | (simp; omega) | (simp at hc; omega) | (simp at hc ⊢; omega) | (simp; done)) (by first | omega | (simp; omega) | (simp at hc; omega) | (simp at hc ⊢; omega) | (simp; done))) rfl ?_ | refine st_p (fun _ => by exact y_index (.plain rfl) (.plain rfl) (by omega) rfl) rfl ?_ | refine st_p (fun _ => by exact y_indexArr (.plain rfl) (.plain rfl) rfl (by first | omega | (simp; omega) | (simp at hc; omega) | (simp at hc ⊢; omega) | (simp; done))) rfl ?_
      first | refine st_p (fun _ => by exact y_loadEW (.plain rfl) (by rfl)) rfl ?_ | refine st_p (fun _ => by exact y_loadEAggN (cs' := [_, _]) (.plain rfl) (le_ rfl) rfl) rfl ?_
      refine st_n (fun _ => by exact y_alloc) rfl fun n8 => ?_
      refine st_s (fun _ => by exact y_storeW (by rfl) rfl (.plain rfl) (.plain rfl) (by first | exact .here | exact u1 | exact u2 | exact u3 | exact u4 | exact u5 | exact u6 | exact u7 | exact u8 | exact u9 | exact u10 | exact u11 | exact u12 | exact u13) (by rfl)) ?_
      refine aops_nil ?_
      refine awp_weak (Weak.perm (List.Perm.append_left [Item.cells n8 _, Item.cells n6 _, Item.cells nj _, Item.cells n4 _] (tails_perm T hut))) ?_
      rw [Int.toNat_of_nonneg hub.1]
      refine awp_anyT (ks := [.free, .free, .free, .free, .free, .free, .free, .free, .free, .read, .free, .free, .free, .write, .free, .write]) [.tail (T l[k].u), .cells nj _] (by apply Takes.cons (by first | exact .here | exact k1 | exact k2 | exact k3 | exact k4 | exact k5 | exact k6 | exact k7 | exact k8 | exact k9 | exact k10 | exact k11 | exact k12 | exact k13); apply Takes.cons (by first | exact .here | exact k1 | exact k2 | exact k3 | exact k4 | exact k5 | exact k6 | exact k7 | exact k8 | exact k9 | exact k10 | exact k11 | exact k12 | exact k13); exact .nil _) (by kernel_rfl) (fun K => ?_) ?_
      · skip
        refine dr_p (fun _ => by exact y_fieldPtr (.plain rfl)) rfl ?_
        refine dr_p (fun _ => by exact y_load (.plain rfl) (by first | exact .here | exact k1 | exact k2 | exact k3 | exact k4 | exact k5 | exact k6 | exact k7 | exact k8 | exact k9 | exact k10 | exact k11 | exact k12 | exact k13) rfl) rfl ?_
        refine dr_p (fun _ => by exact y_fieldPtr (.plain rfl)) rfl ?_
        refine dr_p (fun _ => by exact y_load (.plain rfl) (by first | exact .here | exact k1 | exact k2 | exact k3 | exact k4 | exact k5 | exact k6 | exact k7 | exact k8 | exact k9 | exact k10 | exact k11 | exact k12 | exact k13) rfl) rfl ?_
        refine dr_p (fun _ => by exact y_fieldPtr (.plain rfl)) rfl ?_
        refine dr_p (fun _ => by exact y_load (.plain rfl) (by first | exact .here | exact k1 | exact k2 | exact k3 | exact k4 | exact k5 | exact k6 | exact k7 | exact k8 | exact k9 | exact k10 | exact k11 | exact k12 | exact k13) rfl) rfl ?_
        refine dr_p (fun _ => by exact y_fieldPtr (.plain rfl)) rfl ?_
        refine dr_p (fun _ => by exact y_load (.plain rfl) (by first | exact .here | exact k1 | exact k2 | exact k3 | exact k4 | exact k5 | exact k6 | exact k7 | exact k8 | exact k9 | exact k10 | exact k11 | exact k12 | exact k13) rfl) rfl ?_
        refine dr_p (fun _ => by exact y_indexArr (.plain rfl) (.plain rfl) (Int.toNat_of_nonneg hub.1).symm hut) rfl ?_
        refine dr_r (fun _ => by exact y_load (.plain rfl) (.there .here) (ea_get _ ⟨hub.1, by omega⟩)) rfl ?_
        refine dr_p (fun _ => by exact y_fieldPtr (.plain rfl)) rfl ?_
        refine dr_p (fun _ => by exact y_load (.plain rfl) (by first | exact .here | exact k1 | exact k2 | exact k3 | exact k4 | exact k5 | exact k6 | exact k7 | exact k8 | exact k9 | exact k10 | exact k11 | exact k12 | exact k13) rfl) rfl ?_
        refine dr_p (fun _ => by exact y_buildSlice (.cons (.plain rfl) inferInstance (by rfl) .nil) rfl (le_ rfl)) rfl ?_
        first | refine dr_append (by rfl) (.plain rfl) (.plain rfl) (by first | (simp; try omega) | omega) rfl fun t' => ?_ | refine dr_append0 (by rfl) (.plain rfl) (.plain rfl) (by first | (simp; try omega) | omega) rfl fun t' => ?_ | refine dr_append0 (by rfl) (.imp (.plain rfl) AV.Imp.nil_grow) (.plain rfl) (by first | (simp; try omega) | omega) rfl fun t' => ?_ | refine dr_append0 (by rfl) (.imp (.plain rfl) AV.Imp.full_grow) (.plain rfl) (by first | (simp; try omega) | omega) rfl fun t' => ?_
        refine dr_p (fun _ => by exact y_indexArr (.plain rfl) (.plain rfl) (Int.toNat_of_nonneg hub.1).symm hut) rfl ?_
        refine dr_s (fun _ => by exact y_store (by rfl) rfl (.plain rfl) (.plain rfl) (.there .here) (by rw [ea_len]; simp; omega)) ?_
        refine dr_nil ?_
        refine awp_region ?_
        refine st_p (fun _ => by exact y_add (.plain rfl) (.plain rfl) (by first | omega | (simp; omega) | (simp at hc; omega) | (simp at hc ⊢; omega) | (simp; done))) rfl ?_
        refine st_p (fun _ => by exact y_move (.plain rfl)) rfl ?_
        refine aops_nil ?_
        refine ⟨(k + 1, fun j => if j = ((l[k].u.toNat : Nat) : Int) then t' else T j), by show k + 1 ≤ _; omega, by show l.length - (k + 1) < l.length - k; omega, ?_⟩
        refine Weak.trans (Weak.items2 (st' := .cells n6 _ :: .cells nj _ :: .cells n4 _ :: .tail t' :: tailsX n.toNat l[k].u.toNat T) (.cons (.there (.there (.there .here))) (.cons (.there .here) (.cons (.there (.there .here)) (.cons .here (.sub (List.sublist_cons_self _ _))))))) ?_
        refine Weak.trans (Weak.perm (List.Perm.append_left [Item.cells n6 _, Item.cells nj _, Item.cells n4 _] (tails_perm2 T t' hut))) ?_
        refine Weak.of2 (by (repeat (first | exact .nil _ | refine .cons rfl (by first | exact AV.Imp.refl _ | exact Sl.imp | exact AV.Imp.agg RowOf.imp | exact AV.Imp.grow_sl | exact AV.Imp.nil_grow | exact AV.Imp.full_grow | exact AV.Imp.own_grow | exact AV.Imp.grow_of rfl | exact AV.Imp.sl_of rfl | exact AV.Imp.int_of (by omega) | exact AV.Imp.of_eq (by first | omega | simpa)) ?_)); done) (.cells .here (ImpL.refl _) (.cells .here ?_ (.refl _)))
        rw [ea_set _ _ ⟨hub.1, by omega⟩]
        refine ImpL.of_eq (ea_congr fun j hj => ?_)
        dsimp only
        rw [Dg.sc_succ h2, Int.toNat_of_nonneg hub.1]
        by_cases e : j = l[k].u
        · subst e; rw [if_pos rfl, if_pos rfl, if_pos rfl, List.map_append]; rfl
        · rw [if_neg e, if_neg e, if_neg e]
      · kernel_rfl
    · skip
      try simp only [decide_eq_true_eq, decide_eq_false_iff_not, Bool.not_eq_true', Bool.not_eq_false', Bool.not_eq_true, Bool.not_eq_false, List.length_map, Int.ofNat_lt, Int.ofNat_le, Bool.or_eq_true, Bool.and_eq_true, Bool.or_eq_false_iff, Bool.and_eq_false_iff] at h2
      refine awp_exit ?_
      refine awp_seq ?_
      obtain rfl : k = l.length := by omega
      refine awp_weak (Weak.items2 (st' := .cells n6 [.int n, .arr nj 0 ((bl n.toNat (Dg.sc l)).map encLI).length] :: .cells nj (((bl n.toNat (Dg.sc l)).map encLI).flatten ++ []) :: .cells n4 [.int 0, .val (.slice none 0 0)] :: tails n.toNat T) ?_) ?_
      · refine .cells .here ?_ (.cells .here ?_ (.refl _))
        · rw [List.length_map, bl_len]; exact ImpL.refl _
        · rw [List.append_nil, List.take_length]
          refine Eq.mp (congrArg (ImpL _) (ea_row (fun b : List Int => .sl 1 (b.map encI)) n.toNat (Dg.sc l)).symm) (ea_imp fun j _ => AV.Imp.grow_sl)
      refine awp_weak (st' := .cells n6 [.int n, .sl 1 ((bl n.toNat (Dg.sc l)).map encLI)] :: .cells n4 [.int 0, .val (.slice none 0 0)] :: tails n.toNat T) (Weak.freezeC (cs := [.int n, .arr nj 0 ((bl n.toNat (Dg.sc l)).map encLI).length]) (i := 1) (sz := 1) (xs := (bl n.toNat (Dg.sc l)).map encLI) (pad := []) (by simp [encLI]) rfl (.cons (.there .here) (.cons .here (.nil _)))) ?_
      refine awp_region ?_
      refine st_p (fun _ => by exact y_loadW (.plain rfl) (by first | exact .here | exact k1 | exact k2 | exact k3 | exact k4 | exact k5 | exact k6 | exact k7 | exact k8 | exact k9 | exact k10 | exact k11 | exact k12 | exact k13) (by rfl)) rfl ?_
      refine st_s (fun _ => by exact y_storeW (by rfl) rfl (.plain rfl) (.plain rfl) (by first | exact .here | exact u1 | exact u2 | exact u3 | exact u4 | exact u5 | exact u6 | exact u7 | exact u8 | exact u9 | exact u10 | exact u11 | exact u12 | exact u13) (by rfl)) ?_
      refine st_p (fun _ => by exact y_assign (.plain rfl)) rfl ?_
      refine aops_nil ?_
      refine awp_ret ?_
      refine retG (.inr rfl) (.cons (res_cellW rfl (by first | exact .here | exact k1 | exact k2 | exact k3 | exact k4 | exact k5 | exact k6 | exact k7 | exact k8 | exact k9 | exact k10 | exact k11 | exact k12 | exact k13) (by rfl)) (.cons (.tmp rfl) .nil)) (VShift.of2 (AV.Imp.tup (.cons (AV.Imp.agg (RowOf.imp (enc := encG))) (.cons (AV.Imp.refl _) .nil))) (.nil _)) ⟨congrArg (fun x : (Dg.Gr) × (Bool) => (AV.tup [(AV.agg (encG x.1)), (AV.bool x.2)])) (show (_, _) = ((Dg.bd n l, Dg.bdB n l)) from ?_), rfl⟩
      rw [Dg.bd, Dg.bdB, if_pos hck, decide_eq_true hck]
      all_goals rfl

end Go.Proofs
